import Derived.Test.YtiaekocjeinkjaaGreatDoorS37
set_option linter.all false
namespace Go.Proofs.YtiaekocjeinkjaaGreatDoor
open Go.Proofs.Tryz
set_option maxRecDepth 100000
set_option maxHeartbeats 4000000
open Go.RowKit
def hW(x a t)(b:x<=4294967295)(c:a<=t)(d:t<32):bI C0 60 [vU x,vN a,vN t] (vU (ar x a (t+1-a))):=by
 refine bc func60 R ?_;exact rW _ R (gk (dd ad ad))<|rW _ R (gk (by rw[dd ad ad];omega))<|zC (SC x a (t+1-a) b ad ad)<|fT R R
abbrev p6(n:Nat):List AV:=[vI (n:Int)]
def Mr(l)(f)(b:f<=7):bI C0 98 [.Y 1 (l.map p6) true,vU f] (vI ((hK l f:Nat):Int)):=by
 refine bc func98 R ?_;refine zW _ (ap (bH b R))<|rW _ R (am (λn:Nat=>b1.ok (vI (n:Int))) (aH ..))<|zW _ (ak (bl _ _)) ?_;refine ci (f<l.length) qW (λa=>?_) (λa=>?_)
 .skip
  exact zX (p6 (l.getD f 0)) (.k 1 0 (p6 (l.getD f 0))) R (by rw[Int.toNat_natCast,aX,aA ad,aR,aA ad];rfl)<|fI R R
 exact fN R (by show 0=l.getD f 0;rw[aR,bE ad];rfl)
def z6(f g)(h:f<=7)(i:g<=127):bI C0 99 [vU f,vU g] (vI ((ks f g:Nat):Int)):=by
 refine bc func99 R ?_;refine zW _ (ak (ba _ _)) ?_;refine dx f 1 (λa=>?_) (λa=>?_)
 .refine zW _ (ak (ba _ _)) ?_;refine dx g 0 (λd=>?_) (λd=>?_)
  .exact fN R (by unfold ks;simp[a,d])
  exact fN R (by unfold ks;simp[a,d])
 refine zW _ (ak (ba _ _)) ?_;refine dx f 5 (λb=>?_) (λb=>?_)
 .refine zW _ (ak (ba _ _)) ?_;refine dx g 0 (λc=>?_) (λc=>?_)
  .exact fN R (by unfold ks;simp[a,b,c])
  refine zW _ (ak (ba _ _)) ?_;refine dx g 32 (λe=>?_) (λe=>?_)
  .exact fN R (by unfold ks;simp[a,b,c,e])
  exact fN R (by unfold ks;simp[a,b,c,e])
 exact zV (.Y 1 ([[vI 19],[vI 0],[vI 20],[vI 21],[vI 22],[vI 0],[vI 23],[vI 24]]) true)<|zC (Mr [19,0,20,21,22,0,23,24] f h)<|fN R (by unfold ks;simp[a,b])
def z7(f g)(e:f<=7)(i:g<=127):bI C0 100 [vU f,vU g] (vI ((k' f g:Nat):Int)):=by
 refine bc func100 R ?_;refine zW _ (ak (ba _ _)) ?_;refine dx g 0 (λa=>?_) (λa=>?_)
 .exact zV (.Y 1 ([[vI 28],[vI 30],[vI 31],[vI 32],[vI 33],[vI 34],[vI 36],[vI 37]]) true)<|zC (Mr [28,30,31,32,33,34,36,37] f e)<|fN R (by unfold k';simp[a])
 refine zW _ (ak (ba _ _)) ?_;refine dx g 1 (λb=>?_) (λb=>?_)
 .exact zV (.Y 1 ([[vI 38],[vI 39],[vI 40],[vI 41],[vI 42],[vI 43],[vI 44],[vI 45]]) true)<|zC (Mr [38,39,40,41,42,43,44,45] f e)<|fN R (by unfold k';simp[a,b])
 refine zW _ (ak (ba _ _))<|aw R id (ak (ba _ _))<|zN R (λh=>h) ?_;refine ci (g=32/\f=0) (uA _ _ bT bT) (λc=>?_) (λc=>?_)
 .exact fN R (by unfold k';simp[a,b,c])
 refine zW _ (ak (ba _ _))<|aw R id (ak (ba _ _))<|zN R (λh=>h) ?_;refine ci (g=32/\f=5) (uA _ _ bT bT) (λd=>?_) (λd=>?_)
 .exact fN R (by unfold k';simp[a,b,c,d])
 exact fN R (by unfold k';simp[a,b,c,d])
def ED(x)(m:x<=4294967295):bI C0 57 [vU x] (vI ((ca x:Nat):Int)):=by
 refine bc func57 R ?_;refine zC (hW x 12 14 m dT dT)<|zC (hW x 25 31 m dT dT) ?_;refine zW _ (ak (ba _ _)) ?_;refine dx x 15 (λa=>?_) (λa=>?_)
 .exact fN R (by unfold ca gl;simp[a])
 refine zW _ (ak (ba _ _)) ?_;refine dx x 115 (λb=>?_) (λb=>?_)
 .exact fN R (by unfold ca gl;simp[a,b])
 refine zW _ (ak (ba _ _)) ?_;refine dx x 1048691 (λc=>?_) (λc=>?_)
 .exact fN R (by unfold ca gl;simp[a,b,c])
 refine zC (hW x 0 6 m dT dT)<|zW _ (ak (ba _ _)) ?_;refine dx (ar x 0 7) 55 (λd=>?_) (λd=>?_)
 .exact fN R (by unfold ca gl;simp[a,b,c,d])
 refine zW _ (ak (ba _ _)) ?_;refine dx (ar x 0 7) 23 (λe=>?_) (λe=>?_)
 .exact fN R (by unfold ca gl;simp[a,b,c,d,e])
 refine zW _ (ak (ba _ _)) ?_;refine dx (ar x 0 7) 111 (λf=>?_) (λf=>?_)
 .exact fN R (by unfold ca gl;simp[a,b,c,d,e,f])
 refine zW _ (ak (ba _ _)) ?_;refine dx (ar x 0 7) 103 (λh=>?_) (λh=>?_)
 .exact zV (.Y 1 ([[vI 4]]) true)<|zC (Mr [4] (ar x 12 3) (gQ R))<|fN R (by unfold ca gl;simp[a,b,c,d,e,f,h])
 refine zW _ (ak (ba _ _)) ?_;refine dx (ar x 0 7) 99 (λi=>?_) (λi=>?_)
 .exact zV (.Y 1 ([[vI 5],[vI 6],[vI 0],[vI 0],[vI 7],[vI 8],[vI 9],[vI 10]]) true)<|zC (Mr [5,6,0,0,7,8,9,10] (ar x 12 3) (gQ R))<|fN R (by unfold ca gl;simp[a,b,c,d,e,f,h,i])
 refine zW _ (ak (ba _ _)) ?_;refine dx (ar x 0 7) 3 (λk=>?_) (λk=>?_)
 .exact zV (.Y 1 ([[vI 11],[vI 12],[vI 13],[vI 0],[vI 14],[vI 15]]) true)<|zC (Mr [11,12,13,0,14,15] (ar x 12 3) (gQ R))<|fN R (by unfold ca gl;simp[a,b,c,d,e,f,h,i,k])
 refine zW _ (ak (ba _ _)) ?_;refine dx (ar x 0 7) 35 (λg=>?_) (λg=>?_)
 .exact zV (.Y 1 ([[vI 16],[vI 17],[vI 18]]) true)<|zC (Mr [16,17,18] (ar x 12 3) (gQ R))<|fN R (by unfold ca gl;simp[a,b,c,d,e,f,h,i,k,g])
 refine zW _ (ak (ba _ _)) ?_;refine dx (ar x 0 7) 19 (λj=>?_) (λj=>?_)
 .exact zC (z6 _ _ (gQ R) (gQ R))<|fN R (by unfold ca gl;simp[a,b,c,d,e,f,h,i,k,g,j])
 refine zW _ (ak (ba _ _)) ?_;refine dx (ar x 0 7) 51 (λl=>?_) (λl=>?_)
 .exact zC (z7 _ _ (gQ R) (gQ R))<|fN R (by unfold ca gl;simp[a,b,c,d,e,f,h,i,k,g,j,l])
 exact fN R (by unfold ca gl;simp[a,b,c,d,e,f,h,i,k,g,j,l])
def g4(x L:Nat):Nat:=
 if L=73 then cv (ar x 20 12) 12 else if L=83 then cv (ar x 7 5+32*ar x 25 7) 12
 else if L=66 then cv (2*ar x 8 4+32*ar x 25 6+2048*ar x 7 1+4096*ar x 31 1) 13 else if L=85 then 4096*ar x 12 20
 else if L=74 then cv (2*ar x 21 10+2048*ar x 20 1+4096*ar x 12 8+1048576*ar x 31 1) 21 else if L=84 then ar x 20 5 else 0
def C4(a):b2 a<=255:=by unfold b2;(repeat' split)<;>decide
def lf(a):(cW a,b2 a)∈[(0,0),(6,85),(7,74),(2,73),(5,66),(4,83),(3,84),(1,82),(8,87)]:=by
 unfold cW b2;(repeat' split)<;>first|decide|(exfalso;omega)
def xo(a){p:Nat->Nat->Prop}(b:p 0 0)(i:p 6 85)(j:p 7 74)(d:p 2 73)(g:p 5 66)(f:p 4 83)(e:p 3 84)(c:p 1 82)(k:p 8 87):p (cW a) (b2 a):=by
 have h:=lf a;simp[eu,Prod.mk.injEq,List.not_mem_nil,or_false]at h;rcases h with h|h|h|h|h|h|h|h|h<;>rw[h.1,h.2]<;>assumption
def z8(x)(a):g4 x (b2 a)=EG (cW a) x:=by
 rw[zw x _ (sB a)];exact xo a (p:=λf L=>g4 x L=p4 x f) R R R R R R R R R
def E0(x L:Nat)(a:x<=4294967295)(y:L<=255):bI C0 59 [vU x,.v (.int .u8 (L:Int))] (vU (g4 x L)):=by
 refine bc func59 R ?_;refine zC (hW x 31 31 a dT dT) ?_;refine zW _ (ak (ba _ _)) ?_;refine dx L 73 (λb=>?_) (λb=>?_)
 .exact aW R (hW x 20 31 a dT dT)<|zC (Pm (ar x 20 12) 12 (aL ((i7 x 20 12 4095 R)) dT) dT dT)<|fN R (by unfold g4;simp[b])
 refine zW _ (ak (ba _ _)) ?_;refine dx L 83 (λc=>?_) (λc=>?_)
 .refine zC (hW x 7 11 a dT dT)<|aW R (hW x 25 31 a dT dT) ?_;have o:32*(ar x 25 7)<=4064:=cJ (aC 32) (i7 x 25 7 127 R);refine rW _ R (ap (nJ o R)) ?_;have p:(ar x 7 5)+(32*(ar x 25 7))<=4095:=aD (i7 x 7 5 31 R) o;exact rW _ R (ap (nJ p R))<|zC (Pm ((ar x 7 5)+(32*(ar x 25 7))) 12 (aL (p) dT) dT dT)<|fN R (by unfold g4;simp[b,c])
 refine zW _ (ak (ba _ _)) ?_;refine dx L 66 (λd=>?_) (λd=>?_)
 .refine aW R (hW x 8 11 a dT dT) ?_;have q:2*(ar x 8 4)<=30:=cJ (aC 2) (i7 x 8 4 15 R);refine zW _ (ap (nJ q R))<|aW R (hW x 25 30 a dT dT) ?_;have r:32*(ar x 25 6)<=2016:=cJ (aC 32) (i7 x 25 6 63 R);refine rW _ R (ap (nJ r R)) ?_;have s:(2*(ar x 8 4))+(32*(ar x 25 6))<=2046:=aD q r;refine zW _ (ap (nJ s R))<|aW R (hW x 7 7 a dT dT) ?_;have t:2048*(ar x 7 1)<=2048:=cJ (aC 2048) (i7 x 7 1 1 R);refine rW _ R (ap (nJ t R)) ?_;have u:((2*(ar x 8 4))+(32*(ar x 25 6)))+(2048*(ar x 7 1))<=4094:=aD s t;refine zW _ (ap (nJ u R)) ?_;have v:4096*(ar x 31 1)<=4096:=cJ (aC 4096) (i7 x 31 1 1 R);refine rW _ R (ap (nJ v R)) ?_;have w:(((2*(ar x 8 4))+(32*(ar x 25 6)))+(2048*(ar x 7 1)))+(4096*(ar x 31 1))<=8190:=aD u v;exact rW _ R (ap (nJ w R))<|zC (Pm ((((2*(ar x 8 4))+(32*(ar x 25 6)))+(2048*(ar x 7 1)))+(4096*(ar x 31 1))) 13 (aL (w) dT) dT dT)<|fN R (by unfold g4;simp[b,c,d])
 refine zW _ (ak (ba _ _)) ?_;refine dx L 85 (λe=>?_) (λe=>?_)
 .refine aW R (hW x 12 31 a dT dT) ?_;exact zW _ (ap (nJ (cJ (aC 4096) (i7 x 12 20 1048575 R)) R))<|fN R (by unfold g4;simp[b,c,d,e])
 refine zW _ (ak (ba _ _)) ?_;refine dx L 74 (λf=>?_) (λf=>?_)
 .refine aW R (hW x 21 30 a dT dT) ?_;have g:2*(ar x 21 10)<=2046:=cJ (aC 2) (i7 x 21 10 1023 R);refine zW _ (ap (nJ g R))<|aW R (hW x 20 20 a dT dT) ?_;have h:2048*(ar x 20 1)<=2048:=cJ (aC 2048) (i7 x 20 1 1 R);refine rW _ R (ap (nJ h R)) ?_;have i:(2*(ar x 21 10))+(2048*(ar x 20 1))<=4094:=aD g h;refine zW _ (ap (nJ i R))<|aW R (hW x 12 19 a dT dT) ?_;have j:4096*(ar x 12 8)<=1044480:=cJ (aC 4096) (i7 x 12 8 255 R);refine rW _ R (ap (nJ j R)) ?_;have k:((2*(ar x 21 10))+(2048*(ar x 20 1)))+(4096*(ar x 12 8))<=1048574:=aD i j;refine zW _ (ap (nJ k R)) ?_;have l:1048576*(ar x 31 1)<=1048576:=cJ (aC 1048576) (i7 x 31 1 1 R);refine rW _ R (ap (nJ l R)) ?_;have m:(((2*(ar x 21 10))+(2048*(ar x 20 1)))+(4096*(ar x 12 8)))+(1048576*(ar x 31 1))<=2097150:=aD k l;exact rW _ R (ap (nJ m R))<|zC (Pm ((((2*(ar x 21 10))+(2048*(ar x 20 1)))+(4096*(ar x 12 8)))+(1048576*(ar x 31 1))) 21 (aL (m) dT) dT dT)<|fN R (by unfold g4;simp[b,c,d,e,f])
 refine zW _ (ak (ba _ _)) ?_;refine dx L 84 (λn=>?_) (λn=>?_)
 .exact zC (hW x 20 24 a dT dT)<|fN R (by unfold g4;simp[b,c,d,e,f,n])
 exact fN R (by unfold g4;simp[b,c,d,e,f,n])
def Pl(x:Nat)(k:Nat):SI:=
 if ca x=0 then MG else⟨k,if b2 k=83\/b2 k=66\/b2 k=87 then 0 else(ar x 7 5:Nat),if b2 k=85\/b2 k=74\/b2 k=87 then 0 else(ar x 15 5:Nat),
  if b2 k=82\/b2 k=83\/b2 k=66 then(ar x 20 5:Nat)else 0,g4 x (b2 k)⟩
def Yu(x)(a:x<4294967296):Pl x (ca x)=be x:=by
 unfold Pl be;rw[<-Wi x a];by_cases h:dq x=0
 .rw[aa h,aa h]
 rw[dZ h,dZ h,z8];unfold xW;have b:=Fp x h;have f1:=AY (dq x:Int) ⟨oT,oT⟩;generalize EG _ _=z;revert f1;exact xo (dq x) (p:=λf L=>1<=f->SI.mk (dq x) (if L=83\/L=66\/L=87 then 0 else(ar x 7 5:Nat)) (if L=85\/L=74\/L=87 then 0 else(ar x 15 5:Nat)) (if L=82\/L=83\/L=66 then(ar x 20 5:Nat)else 0) z=⟨dq x,if yW f then(ar x 7 5:Nat)else 0,if uS f then(ar x 15 5:Nat)else 0,if vS f then(ar x 20 5:Nat)else 0,z⟩) (λh=>absurd h dT) (λ_=>rfl) (λ_=>rfl) (λ_=>rfl) (λ_=>rfl) (λ_=>rfl) (λ_=>rfl) (λ_=>rfl) (λ_=>rfl)
def z9(x)(b:x<=4294967295):bI C0 33 [vU x] (.F [g9 (Pl x (ca x)),vI ((if ca x=0 then 20 else 0:Nat):Int)]):=by
 refine bc func33 R ?_;refine zC (ED x b) ?_;refine zW _ (ak (ba _ _)) ?_;refine dx (ca x) 0 (λa=>?_) (λa=>?_)
 .exact zV (.agg [vI 0,vI 0,vI 0,vI 0,.v (.int .u32 0)])<|fT R (by rw[show Pl x (ca x)=⟨0,0,0,0,0⟩from by unfold Pl;rw[aa a];rfl,aa a];rfl)
 refine zC (Vs _)<|aW R (E0 x _ b (C4 _))<|zV (.agg [vN (ca x),vI 0,vI 0,vI 0,vU (g4 x (b2 (ca x)))]) ?_;refine zW _ (ak (ba _ _)) ?_;refine dx (b2 (ca x)) 87 (λc=>?_) (λc=>?_)
 .exact fT R (by rw[show Pl x (ca x)=⟨((ca x:Nat):Int),0,0,0,(g4 x (b2 (ca x)))⟩from by unfold Pl;rw[dZ a];congr 1<;>split<;>first|rfl|(exfalso;omega),dZ a];rfl)
 refine zW _ (ak (db _ _))<|aw rfl id (ak (db _ _))<|zN rfl (λh=>h) ?_;refine ci (¬(b2 (ca x))=83/\ ¬(b2 (ca x))=66) (uA _ _ jh jh) (λd=>?_) (λd=>?_)
 all_goals
  first|(refine aW rfl (hW x 7 11 b dT dT) ?_;refine zW _ (ap (bH (i7 x 7 5 31 rfl) rfl)) ?_)|skip
  refine zW _ (ak (db _ _))<|aw rfl id (ak (db _ _))<|zN rfl (λh=>h) ?_;refine ci (¬(b2 (ca x))=85/\ ¬(b2 (ca x))=74) (uA _ _ jh jh) (λe=>?_) (λe=>?_)
  all_goals
   first|(refine aW rfl (hW x 15 19 b dT dT) ?_;refine zW _ (ap (bH (i7 x 15 5 31 rfl) rfl)) ?_)|skip
   refine zW _ (ak (ba _ _))<|aw rfl id (ak (ba _ _))<|zN rfl (by simp) ?_;refine aw rfl id (ak (ba _ _))<|zN rfl (by simp) ?_;refine ci (((b2 (ca x))=82\/(b2 (ca x))=83)\/(b2 (ca x))=66) (wP _ _ (wP _ _ bT bT) bT) (λf=>?_) (λf=>?_)
   .refine aW R (hW x 20 24 b dT dT)<|zW _ (ap (bH (i7 x 20 5 31 R) R)) ?_
    first|(exact fT rfl (by rw[show Pl x (ca x)=⟨((ca x:Nat):Int),((ar x 7 5:Nat):Int),((ar x 15 5:Nat):Int),((ar x 20 5:Nat):Int),(g4 x (b2 (ca x)))⟩from by unfold Pl;rw[dZ a];congr 1<;>split<;>first|rfl|(exfalso;omega),dZ a];rfl))|(exact fT rfl (by rw[show Pl x (ca x)=⟨((ca x:Nat):Int),0,((ar x 15 5:Nat):Int),((ar x 20 5:Nat):Int),(g4 x (b2 (ca x)))⟩from by unfold Pl;rw[dZ a];congr 1<;>split<;>first|rfl|(exfalso;omega),dZ a];rfl))|(exact fT rfl (by rw[show Pl x (ca x)=⟨((ca x:Nat):Int),((ar x 7 5:Nat):Int),0,((ar x 20 5:Nat):Int),(g4 x (b2 (ca x)))⟩from by unfold Pl;rw[dZ a];congr 1<;>split<;>first|rfl|(exfalso;omega),dZ a];rfl))|(exact fT rfl (by rw[show Pl x (ca x)=⟨((ca x:Nat):Int),0,0,((ar x 20 5:Nat):Int),(g4 x (b2 (ca x)))⟩from by unfold Pl;rw[dZ a];congr 1<;>split<;>first|rfl|(exfalso;omega),dZ a];rfl))
   first|(exact fT rfl (by rw[show Pl x (ca x)=⟨((ca x:Nat):Int),((ar x 7 5:Nat):Int),((ar x 15 5:Nat):Int),0,(g4 x (b2 (ca x)))⟩from by unfold Pl;rw[dZ a];congr 1<;>split<;>first|rfl|(exfalso;omega),dZ a];rfl))|(exact fT rfl (by rw[show Pl x (ca x)=⟨((ca x:Nat):Int),0,((ar x 15 5:Nat):Int),0,(g4 x (b2 (ca x)))⟩from by unfold Pl;rw[dZ a];congr 1<;>split<;>first|rfl|(exfalso;omega),dZ a];rfl))|(exact fT rfl (by rw[show Pl x (ca x)=⟨((ca x:Nat):Int),((ar x 7 5:Nat):Int),0,0,(g4 x (b2 (ca x)))⟩from by unfold Pl;rw[dZ a];congr 1<;>split<;>first|rfl|(exfalso;omega),dZ a];rfl))|(exact fT rfl (by rw[show Pl x (ca x)=⟨((ca x:Nat):Int),0,0,0,(g4 x (b2 (ca x)))⟩from by unfold Pl;rw[dZ a];congr 1<;>split<;>first|rfl|(exfalso;omega),dZ a];rfl))
def E1(x:Nat)(a:x<4294967296):bI C0 33 [vU x] (.F [g9 (be x),vI ((g7 x:Nat):Int)]):=by
 have h:=z9 x (aI a);rw[Yu x a]at h;unfold g7;rw[Wi x a];exact h
def Yr(s:ByteArray)(b:s.size<=4)(k)(a:k<=s.size):dl (s.data.toList.drop (s.size-k)) k<=4294967295:=by
 have h:=yK (s.data.toList.drop (s.size-k)) k;have:256 ^ k<=256 ^ 4:=bU dT ad;omega
def ug(s:ByteArray)(a:s.size<=4):dl s.data.toList s.size<=4294967295:=by
 have h:=Yr s a s.size (aC _)
 rwa [eK,bS]at h
def t'(s:ByteArray):s.data.toList.length=s.size:=cV
def Ys(s:ByteArray)(c:s.size<=4)(k)(a:k<s.size):(256*dl (s.data.toList.drop (s.size-k)) k%4294967296+(s.data.toList.getD (((s.size:Int)-1-(k:Int))).toNat 0).toNat)%4294967296=dl (s.data.toList.drop (s.size-(k+1))) (k+1):=by
 have h:=SL s.data.toList k (by rw[t'];exact a);rw[t']at h;have b:=Yr s c (k+1) a;rw[(oT:(((s.size:Int)-1-(k:Int))).toNat=s.size-1-k),h];rw[h]at b;omega
def T6(b:UInt8):IntKind.wrap .u32 ((b.toNat:Nat):Int)=((b.toNat:Nat):Int):=by
 have:=UInt8.toNat_lt b;simp only[IntKind.wrap,IntKind.signed,IntKind.bits];simp;omega
def y5(n:Nat):IntKind.wrap .u32 (n:Int)=((n%4294967296:Nat):Int):=by
 simp only[IntKind.wrap,IntKind.signed,IntKind.bits];simp
def sr(s)(c:s.size<=4):bI C0 41 [.v (.string s)] (.F [vU (dl s.data.toList s.size),vI 0]):=by
 refine bc func41 R ?_;refine rV (vN s.size) R<|zW (vB (decide (s.size>4))) (ak (fq _ _)) ?_;refine ci (s.size>4) qW (λa=>by omega) (λa=>?_);refine rV (vN s.size) R<|zW (vI ((s.size:Int)-1)) (gk (dd ad ad))<|dk (λk=>⟨a6 [(0,.v (.string s)),(4,vU (dl (s.data.toList.drop (s.size-k)) k)),(5,vI ((s.size:Int)-1-(k:Int)))],aq [],10⟩) (λk=>k<=s.size) (λk=>s.size-k) 0 (λs=>s) (au (λs=>s) ⟨⟨R,R⟩,⟨R,R⟩,⟨am (λn:Int=>AV.v (.int .i64 n)) (by simp),R⟩,tr⟩ tr R) (aE _) ?_;intro k f;refine zV (vB (decide (((s.size:Int)-1-(k:Int))>=0))) ?_;refine ci (((s.size:Int)-1-(k:Int))>=0) qW (λb=>?_) (λb=>?_)
 .skip
  have d:(256*(dl (s.data.toList.drop (s.size-k)) k))%4294967296<=4294967295:=aI (aQ _ dT);refine zV (vU ((256*(dl (s.data.toList.drop (s.size-k)) k))%4294967296))<|nW (.v (.int .u8 (((s.data.toList.getD ((s.size:Int)-1-(k:Int)).toNat 0).toNat:Nat):Int))) R R (⟨oT,oT⟩)<|rW (vU ((s.data.toList.getD ((s.size:Int)-1-(k:Int)).toNat 0).toNat)) R (gk (T6 _))<|zW (vU (dl (s.data.toList.drop (s.size-(k+1))) (k+1))) (ap (by rw[<-Ys s c k ad];exact y5 _))<|zW (vI ((s.size:Int)-1-((k+1:Nat):Int))) (gk (by rw[dd ad ad];omega)) ?_;refine⟨k+1,λs=>s,au (λs=>s) wT tr R,ad,ad⟩
 have e:k=s.size:=oT;subst e;exact fT R (by rw[eK,bS];rfl)
def Su(x k)(a:x<=4294967295)(h:x/2 ^ k>0):hF (x/2 ^ k)=1+hF (x/2 ^ (k+1)):=by
 have:x/2 ^ k<=x:=cO _ _;unfold hF;rw[Lib.bitLen_half _ ad ad,Nat.div_div_eq_div_mul, <-Nat.pow_succ]
def Sv(x k)(b:x<=4294967295)(h:x/2 ^ k>0):k<32:=by
 refine Nat.lt_of_not_le λa=>?_;have:(2:Nat) ^ 32<=2 ^ k:=bU dT a;rw[Nat.div_eq_of_lt ad]at h;omega
def zp:hF 0=0:=dT
def tc(x)(b:x<=4294967295):bI C0 69 [vU x] (vI ((hF x:Nat):Int)):=by
 refine bc func69 R ?_;refine dk (λk=>⟨a6 [(0,vU (x/2 ^ k)),(3,vN k)],aq [],2⟩) (λk=>k<=32/\hF x=k+hF (x/2 ^ k)) (λk=>33-k) 0 (λs=>s) (au (λs=>s) ⟨⟨py (by simp),R⟩,⟨R,R⟩,tr⟩ tr R) ⟨dT,by simp⟩ ?_;intro k c;refine zW (vB (decide ((x/2 ^ k)>0))) (ak (fq _ _)) ?_;refine ci ((x/2 ^ k)>0) qW (λa=>?_) (λa=>?_)
 .skip
  refine zW (vN (k+1)) (ap (bH (aD c.1 (aC 1)) R))<|zM (vU (x/2 ^ (k+1))) (ij (by rw[Nat.pow_succ, <-Nat.div_div_eq_div_mul];exact nJ (aL (cO _ _) (aL (cO _ _) b)) R)) dT ?_;refine⟨k+1,λs=>s,au (λs=>s) wT tr R,⟨Sv x k b a,by rw[c.2,Su x k b a];omega⟩,(oH (Sv x k b a))⟩
 exact fN R (by rw[c.2,show x/2 ^ k=0 from Nat.eq_zero_of_not_pos a,zp];rfl)
def zq(m)(a)(b)(g:a+b.size<=m.size)(o:m.size<=256)(f:a<=4294967295)(l:b.size<=4):bI C0 40 [.v (.string m),vU a,.v (.string b)] (.v (.string (DD m a b))):=by
 refine bc func40 R ?_;refine zV (.Y 1 [] true) ?_;refine jR (λk=>match k with|0=>⟨a6 [(0,.v (.string m)),(1,vU a),(2,.v (.string b)),(7,.Y 1 [] true),(8,vN 0)],aq [],4⟩|k+1=>⟨a6 [(0,.v (.string m)),(1,vU a),(2,.v (.string b)),(7,.X 0 0 (k+1) false),(8,vN (k+1))],aq [(0,.arr ((c1 (uU m b a) (k+1)).map Sx) 1)],4⟩) (λk=>k<=m.size) (λk=>m.size-k) 0 (λs=>s) (au (λs=>s) wT tr R) (aE _) ?_;intro k n;rcases k with _|k
 .have c:0<=1000000:=dT;refine qS 0 R<|rV (vN m.size) R<|zW _ (ak (bl _ _)) ?_;refine ci (0<m.size) qW (λi=>?_) (λi=>?_)
  .refine rW _ R (ap (bH f R))<|zW _ (gk (dd ad ad))<|zV (vB (decide ((((0:Nat):Int)-(a:Int))>=0))) ?_;refine aw R id R<|aw R b9 R<|zN R (λh=>h) ?_;refine ci ((((0:Nat):Int)-(a:Int))>=0/\(((0:Nat):Int)-(a:Int))<((b.size:Nat):Int)) (uA _ _ qW qW) (λd=>?_) (λd=>?_)
   .refine nW (.v (.int .u8 (((b.data.toList.getD (((0:Nat):Int)-(a:Int)).toNat 0).toNat:Nat):Int))) R R (⟨oT,oT⟩)<|rV (.Y 1 ([[.v (.int .u8 (((b.data.toList.getD (((0:Nat):Int)-(a:Int)).toNat 0).toNat:Nat):Int))]]) true) R<|zF (x:=.X 26 0 1 false) (h':=an _ 26 (some (.arr (([])++([[.v (.int .u8 (((b.data.toList.getD (((0:Nat):Int)-(a:Int)).toNat 0).toNat:Nat):Int))]])) 1))) R ⟨by exact aJ R,by exact aJ R,tr,tr⟩ ?_;refine zW _ (ap (bH (aD c (aC 1)) R)) ?_;refine⟨0+1,λs=>match s with|0=>26|s=>s,au (λs=>match s with|0=>26|s=>s) wT ⟨⟨R,am (λz=>some (a'.arr z 1)) (Jp (row:=Sx) (x:=b.data.toList.getD (((0:Nat):Int)-(a:Int)).toNat 0) (by unfold uU;rw[aa d])),R⟩,tr⟩ R,ad,ad⟩
   refine nW (.v (.int .u8 (((m.data.toList.getD (((0:Nat):Int)).toNat 0).toNat:Nat):Int))) R R (⟨oT,oT⟩)<|rV (.Y 1 ([[.v (.int .u8 (((m.data.toList.getD (((0:Nat):Int)).toNat 0).toNat:Nat):Int))]]) true) R<|zF (x:=.X 26 0 1 false) (h':=an _ 26 (some (.arr (([])++([[.v (.int .u8 (((m.data.toList.getD (((0:Nat):Int)).toNat 0).toNat:Nat):Int))]])) 1))) R ⟨by exact aJ R,by exact aJ R,tr,tr⟩ ?_;refine zW _ (ap (bH (aD c (aC 1)) R)) ?_;refine⟨0+1,λs=>match s with|0=>26|s=>s,au (λs=>match s with|0=>26|s=>s) wT ⟨⟨R,am (λz=>some (a'.arr z 1)) (Jp (row:=Sx) (x:=m.data.toList.getD ((0:Nat):Int).toNat 0) (by unfold uU;rw[dZ d];rfl)),R⟩,tr⟩ R,ad,ad⟩
  exact qX 0 R<|SV (([]:List UInt8)) R R R tr (rfl)<|cg 0 R<|fS R (by rw[<-Ld m b a g];rw[(oT:m.size=0)];rfl)
 have c:k+1<=1000000:=oT;refine qS 0 R<|rV (vN m.size) R<|zW _ (ak (bl _ _)) ?_;refine ci ((k+1)<m.size) qW (λj=>?_) (λj=>?_)
 .refine rW _ R (ap (bH f R))<|zW _ (gk (dd ad ad))<|zV (vB (decide (((((k+1):Nat):Int)-(a:Int))>=0))) ?_;refine aw R id R<|aw R b9 R<|zN R (λh=>h) ?_;refine ci (((((k+1):Nat):Int)-(a:Int))>=0/\((((k+1):Nat):Int)-(a:Int))<((b.size:Nat):Int)) (uA _ _ qW qW) (λe=>?_) (λe=>?_)
  .refine nW (.v (.int .u8 (((b.data.toList.getD ((((k+1):Nat):Int)-(a:Int)).toNat 0).toNat:Nat):Int))) R R (⟨oT,oT⟩)<|rV (.Y 1 ([[.v (.int .u8 (((b.data.toList.getD ((((k+1):Nat):Int)-(a:Int)).toNat 0).toNat:Nat):Int))]]) true) R ?_;refine zF R ⟨gC ad,gF,tr⟩ ?_;refine zW _ (ap (bH (aD c (aC 1)) R)) ?_;refine⟨(k+1)+1,λs=>match s with|0=>26|s=>s,au (λs=>match s with|0=>26|s=>s) ⟨⟨R,R⟩,⟨R,R⟩,⟨R,R⟩,⟨am (λz=>AV.X 26 0 z false) gL,R⟩,⟨R,R⟩,tr⟩ ⟨⟨R,am (λz=>some (a'.arr z 1)) (Gh (by unfold uU;rw[aa e])),R⟩,tr⟩ R,ad,ad⟩
  refine nW (.v (.int .u8 (((m.data.toList.getD ((((k+1):Nat):Int)).toNat 0).toNat:Nat):Int))) R R (⟨oT,oT⟩)<|rV (.Y 1 ([[.v (.int .u8 (((m.data.toList.getD ((((k+1):Nat):Int)).toNat 0).toNat:Nat):Int))]]) true) R ?_;refine zF R ⟨gC ad,gF,tr⟩ ?_;refine zW _ (ap (bH (aD c (aC 1)) R)) ?_;refine⟨(k+1)+1,λs=>match s with|0=>26|s=>s,au (λs=>match s with|0=>26|s=>s) ⟨⟨R,R⟩,⟨R,R⟩,⟨R,R⟩,⟨am (λz=>AV.X 26 0 z false) gL,R⟩,⟨R,R⟩,tr⟩ ⟨⟨R,am (λz=>some (a'.arr z 1)) (Gh (by unfold uU;rw[dZ e];rfl)),R⟩,tr⟩ R,ad,ad⟩
 exact qX 0 R<|SV (c1 (uU m b a) (k+1)) R R R (Nat.le_of_eq gF) (by rw[gT];exact lN _)<|cg 0 R<|fS R (by rw[<-Ld m b a g];rw[(oT:m.size=k+1)])
def KZ(n):gU (List.take n (List.drop 0 (List.replicate n [AV.v (.int .u8 0)])))=some (List.replicate n (0:UInt8)):=by
 rw[bS,aN (by simp)];have:List.replicate n [AV.v (.int .u8 0)]=(List.replicate n (0:UInt8)).map λb=>[.v (.int .u8 (b.toNat:Int))]:=by simp
 rw[this];exact lN _
def v2(m:ByteArray)(j)(b:m.size<=256)(a:j<=4):((m.size+(⟨(List.replicate (16*2 ^ j-m.size) (0:UInt8)).toArray⟩:ByteArray).size:Nat):Int)<=IntKind.i64.max:=by
 have c:=bU (n:=2) dT a;have e:(⟨(List.replicate (16*2 ^ j-m.size) (0:UInt8)).toArray⟩:ByteArray).size=16*2 ^ j-m.size:=by
  show(List.replicate (16*2 ^ j-m.size) (0:UInt8)).toArray.size=_;simp
 rw[e];simp only[IntKind.max,IntKind.signed,IntKind.bits];simp;omega
def Mq(m:ByteArray):m.extract 0 m.size=m:=by simp
def NY(x)(n):x++(⟨(List.replicate n (0:UInt8)).toArray⟩:ByteArray)=(⟨(x.data.toList++List.replicate n 0).toArray⟩:ByteArray):=by
 refine ByteArray.ext ?_;rw[ByteArray.data_append];simp
def Vo(m)(j)(d: ¬m.size>256)(c: ¬ 16*2 ^ j<m.size)(b:j<=4)(a:j=0\/16*2 ^ (j-1)<m.size):m++(⟨(List.replicate (16*2 ^ j-m.size) (0:UInt8)).toArray⟩:ByteArray)=jB m:=by
 rw[NY];unfold jB;rw[kD ad,Mq,NE b ad a]
def Sw(m)(j)(d:m.size>256)(b: ¬ 16*2 ^ j<(m.extract 0 256).size)(a:j<=4)(c:j=0\/16*2 ^ (j-1)<(m.extract 0 256).size):m.extract 0 256++(⟨(List.replicate (16*2 ^ j-(m.extract 0 256).size) (0:UInt8)).toArray⟩:ByteArray)=jB m:=by
 have e:(m.extract 0 256).size=256:=by rw[dA];omega
 rw[NY];unfold jB;rw[Nat.min_eq_right ad, <-NE a ad ad,e]
def Ej{n j:Nat}(b:n<=256)(a:j<=4)(h:16*2 ^ j<n):j+1<=4:=IQ (n:=n) a ad
def pw(m):bI C0 8 [.v (.string m)] (.v (.string (jB m))):=by
 refine bc func8 R ?_;refine rV (vN m.size) R<|zW (vB (decide (m.size>256))) (ak (fq _ _)) ?_;refine ci (m.size>256) qW (λf=>?_) (λf=>?_)
 .refine zM (.v (.string (m.extract 0 256))) R (⟨dT,by show(0:Int)<=256;decide,by show(256:Int)<=((m.size:Nat):Int);omega⟩) ?_;have b:(m.extract 0 256).size<=256:=by rw[dA];omega
  refine dk (κ:=Nat) (λj=>⟨a6 [(0,.v (.string (m.extract 0 256))),(3,vN (16*2 ^ j))],aq [],8⟩) (λj=>j<=4/\(j=0\/16*2 ^ (j-1)<(m.extract 0 256).size)) (λj=>4-j) 0 (λs=>s) (au (λs=>s) wT tr R) ⟨dT,.inl R⟩ ?_;intro j a;refine rV (vN ((m.extract 0 256).size)) R<|zW (vB (decide ((16*2 ^ j)<((m.extract 0 256).size)))) (ak (bl _ _)) ?_;refine ci ((16*2 ^ j)<((m.extract 0 256).size)) qW (λd=>?_) (λd=>?_)
  .refine zW (vN (16*2 ^ (j+1))) (by show b1.ok (vI (IntKind.wrap .i64 (2*((16*2 ^ j:Nat):Int))))=_;have c:=bU (n:=2) dT a.1;rw[dd ad ad];congr 3;rw[Nat.pow_succ];omega) ?_;refine⟨j+1,λs=>s,au (λs=>s) wT tr R,⟨Ej b a.1 d,.inr (sU d)⟩,(oH (Ej b a.1 d))⟩
  refine rV (vN ((m.extract 0 256).size)) R<|rW (vN (16*2 ^ j-(m.extract 0 256).size)) R (gk (by have c:=bU (n:=2) dT a.1;rw[dd ad ad];omega)) ?_;refine zF (h':=an _ 16 (some (.arr (List.replicate (16*2 ^ j-(m.extract 0 256).size) [AV.v (.int .u8 0)]) 1))) R (by have c:=bU (n:=2) dT a.1;refine⟨oT,oT,?_⟩;simp[jH];omega) ?_;exact SV (List.replicate (16*2 ^ j-(m.extract 0 256).size) (0:UInt8)) R R R (by show 0+(16*2 ^ j-(m.extract 0 256).size)<=(List.replicate (16*2 ^ j-(m.extract 0 256).size) [AV.v (.int .u8 0)]).length;rw[cM];omega) (KZ _)<|zM (.v (.string (jB m))) (am (λx=>b1.Z9 _ (.v (.string x))) (Sw m j ad ad a.1 a.2)) (v2 (m.extract 0 256) j b a.1)<|fT R R
 skip
 have b:m.size<=256:=oT;refine dk (κ:=Nat) (λj=>⟨a6 [(0,.v (.string m)),(3,vN (16*2 ^ j))],aq [],5⟩) (λj=>j<=4/\(j=0\/16*2 ^ (j-1)<m.size)) (λj=>4-j) 0 (λs=>s) (au (λs=>s) wT tr R) ⟨dT,.inl R⟩ ?_;intro j a;refine rV (vN m.size) R<|zW (vB (decide ((16*2 ^ j)<m.size))) (ak (bl _ _)) ?_;refine ci ((16*2 ^ j)<m.size) qW (λe=>?_) (λe=>?_)
 .refine zW (vN (16*2 ^ (j+1))) (by show b1.ok (vI (IntKind.wrap .i64 (2*((16*2 ^ j:Nat):Int))))=_;have c:=bU (n:=2) dT a.1;rw[dd ad ad];congr 3;rw[Nat.pow_succ];omega) ?_;refine⟨j+1,λs=>s,au (λs=>s) wT tr R,⟨Ej b a.1 e,.inr (sU e)⟩,(oH (Ej b a.1 e))⟩
 refine rV (vN m.size) R<|rW (vN (16*2 ^ j-m.size)) R (gk (by have c:=bU (n:=2) dT a.1;rw[dd ad ad];omega)) ?_;refine zF (h':=an _ 13 (some (.arr (List.replicate (16*2 ^ j-m.size) [AV.v (.int .u8 0)]) 1))) R (by have c:=bU (n:=2) dT a.1;refine⟨oT,oT,?_⟩;simp[jH];omega) ?_;exact SV (List.replicate (16*2 ^ j-m.size) (0:UInt8)) R R R (by show 0+(16*2 ^ j-m.size)<=(List.replicate (16*2 ^ j-m.size) [AV.v (.int .u8 0)]).length;rw[cM];omega) (KZ _)<|zM (.v (.string (jB m))) (am (λx=>b1.Z9 _ (.v (.string x))) (Vo m j ad ad a.1 a.2)) (v2 m j b a.1)<|fT R R
def zr(size a n)(f:size<=256)(b:a<=4294967295)(c:n<=4):bI C0 38 [vN size,vU a,vN n] (vB (kZ (size:Int) a (n:Int))):=by
 refine bc func38 R ?_;refine zW _ (ak (db _ _))<|aw R id (ak (db _ _))<|zN R (λh=>h) ?_;refine aw R id (ak (db _ _))<|zN R (λh=>h) ?_;refine ci ((¬n=1/\ ¬n=2)/\ ¬n=4) (uA _ _ (uA _ _ jh jh) jh) (λe=>?_) (λe=>?_)
 .exact i6 R (by have d:n=0\/n=1\/n=2\/n=3\/n=4:=ad;rw[bB];rcases d with rfl|rfl|rfl|rfl|rfl<;>simp[c2,kZ]<;>omega)
 refine rW _ rfl (ap (nJ c rfl)) ?_;have g:a%n<=4294967295:=aL (gR _ _) b;refine nW (vU (a%n)) R R ad<|zW _ (ak (ba _ _))<|aw R id (ak (im _ _))<|zN R (λh=>h)<|gn R id (ap (nJ b R))<|aw R id (ap (nJ c R)) ?_;exact gn R b9 (ap (nJ (aD b c) R))<|aw R id (ap (nJ f R))<|aw R b9 (ak (ju _ _))<|zN R (λh=>h)<|i6 R (by have d:n=0\/n=1\/n=2\/n=3\/n=4:=ad;rw[bB];rcases d with rfl|rfl|rfl|rfl|rfl<;>simp[c2,kZ]<;>omega)
def Vp{a}{s}(h: ¬aj a=3\/ ¬s.size=bh a):hG a s=0:=by
 unfold hG;exact dZ (λe=>h.elim (λq=>q e.1) λq=>q e.2)
def Jo{a}{s}(h: ¬(¬aj a=3\/ ¬s.size=bh a)):hG a s=(if a=11 then cv (dl s.data.toList s.size) 8 else if a=12 then cv (dl s.data.toList s.size) 16 else dl s.data.toList s.size):=by
 unfold hG;exact aa ⟨dw λq=>h (.inl q),dw λq=>h (.inr q)⟩
def z3(a)(s):bI C0 42 [vI a,.v (.string s)] (vU (hG a s)):=by
 refine bc func42 R ?_;refine aW R (SE a)<|zW _ (ak (db _ _))<|gn R id R<|jQ R R R R (λh=>h) R R R (.inl R) R (λe=>tf a) ?_;refine aw R b9 (ak (db _ _))<|zN R (by simp) ?_;refine ci (¬(aj a)=3\/ ¬s.size=(bh a)) (wP _ _ jh jh) (λb=>?_) (λb=>?_)
 .exact fI R (by rw[Vp b];rfl)
 refine zC (sr s (oH (lQ a)))<|ct a 11 (λc=>?_) (λc=>?_)
 .exact zC (Pm _ 8 (ug s (oH (lQ a))) dT dT)<|fI R (by rw[Jo b,aa c])
 refine ct a 12 (λd=>?_) (λd=>?_)
 .exact zC (Pm _ 16 (ug s (oH (lQ a))) dT dT)<|fI R (by rw[Jo b,dZ c,aa d])
 exact fI R (by rw[Jo b,dZ c,dZ d])
def z4(c)(a b)(f:a<=4294967295)(g:b<=4294967295):bI C0 45 [vI c,vU a,vU b] (vI ((e8 c a b:Nat):Int)):=by
 refine bc func45 R ?_;have d:cd c a<=4294967295:=aI (pT c a (bG f));have e:cd c b<=4294967295:=aI (pT c b (bG g));refine zV (vB (decide (c<42)))<|aw R id R<|zN R (by simp) ?_;refine ci (c<42\/c>45) (wP _ _ qW qW) (λh=>?_) (λh=>?_)
 .exact fI R (by unfold e8;rw[aa ad];rfl)
 refine zC (Wg c a f)<|zC (Wg c b g) ?_;refine zW _ (ak (ba _ _))<|aw R b9 (ak (bl _ _))<|zN R (by simp) ?_;refine ci (b=0\/(cd c a)<(cd c b)) (wP _ _ bT qW) (λi=>?_) (λi=>?_)
 .exact fI R (by unfold e8;rw[dZ ad,aa ad];rfl)
 refine rW _ R (ap (nJ d R))<|aW R (tc _ d) ?_;exact zW _ (ap (bH (aD (aC 3) (IM _ (bG d))) R))<|rW _ R (ap (nJ e R))<|aW R (tc _ e)<|zV (vI (IntKind.wrap .i64 (((3+(hF (cd c a)):Nat):Int)-((hF (cd c b):Nat):Int))))<|fI R (by unfold e8;rw[dZ ad,dZ ad];have j:=IM _ (bG d);have k:=Kz (cd c b) (cd c a) ad ad ad (oH (yJ c b ad ad));rw[dd ad ad];omega)
def ua{c}(a b)(h:c=28\/c=19):b7 c a b=(a+b)%4294967296:=by rcases h with rfl|rfl<;>simp[b7]
def D'{c}(a b)(h:c=29):b7 c a b=(a+4294967296-b)%4294967296:=by subst h;simp[b7]
def ub{c}(a b)(h:c=37\/c=24):b7 c a b=a&&&b:=by rcases h with rfl|rfl<;>simp[b7]
def uc{c}(a b)(h:c=36\/c=23):b7 c a b=a ||| b:=by rcases h with rfl|rfl<;>simp[b7]
def ud{c}(a b)(h:c=33\/c=22):b7 c a b=a^^^b:=by rcases h with rfl|rfl<;>simp[b7]
def ue{c}(a b)(h:c=30\/c=25):b7 c a b=a*2 ^ (b%32)%4294967296:=by rcases h with rfl|rfl<;>simp[b7]
def uf{c}(a b)(h:c=34\/c=26):b7 c a b=a/2 ^ (b%32):=by rcases h with rfl|rfl<;>simp[b7]
def tl{c}(a b)(h:c=35\/c=27):b7 c a b=fi (bw a/2 ^ (b%32)):=by rcases h with rfl|rfl<;>simp[b7]
def tm{c}(a b)(h:c=31\/c=20):b7 c a b=(if bw a<bw b then 1 else 0):=by rcases h with rfl|rfl<;>simp[b7]
def tn{c}(a b)(h:c=32\/c=21):b7 c a b=(if a<b then 1 else 0):=by rcases h with rfl|rfl<;>simp[b7]
def S7{c}(a b)(h:c=1):b7 c a b=b:=by subst h;simp[b7]
def rz{c}(a b)(h:∀k∈[28,19,29,37,24,36,23,33,22,30,25,34,26,35,27,31,20,32,21,1],c≠k):b7 c a b=0:=by
 simp[eu,List.not_mem_nil,or_false,forall_eq_or_imp,forall_eq]at h;unfold b7
 (repeat rw[dZ ad])
def T0(d )(a b)(c:a<=4294967295)(e:b<=4294967295):bI C0 64 [vI d,vU a,vU b] (vU (b7 d a b)):=by
 refine bc func64 R ?_;refine nW (vU (b%32)) R R dT<|zW _ (ap (bH (aI (aQ _ dT)) R))<|ct d 28 (λk=>?_) (λk=>?_)
 .refine zT (bT.2 k)<|zW _ (ap (nJ c R))<|rW _ R (ap (nJ e R)) ?_;refine rW _ R (ap (nJ (aD c e) R)) ?_;exact nW (.v (.int .u64 (((a+b)%4294967296:Nat):Int))) R R dT<|zW _ (ap (nJ (aI (aQ _ dT)) R))<|fN R (ua a b ad).symm
 refine ct d 19 (λu=>?_) (λu=>?_)
 .refine zW _ (ap (nJ c R))<|rW _ R (ap (nJ e R)) ?_;refine rW _ R (ap (nJ (aD c e) R)) ?_;exact nW (.v (.int .u64 (((a+b)%4294967296:Nat):Int))) R R dT<|zW _ (ap (nJ (aI (aQ _ dT)) R))<|fN R (ua a b ad).symm
 refine ct d 29 (λv=>?_) (λv=>?_)
 .refine rW _ R (ap (nJ c R)) ?_;refine zW _ (ap (nJ (aD c (aC 4294967296)) R))<|rW _ R (ap (nJ e R)) ?_;have z:((a+4294967296)+18446744073709551616-b)%18446744073709551616<=18446744073709551615:=aI (aQ _ dT);refine rW _ R (ap (xR e R)) ?_;exact nW (.v (.int .u64 (((((a+4294967296)+18446744073709551616-b)%18446744073709551616)%4294967296:Nat):Int))) R R dT<|zW _ (ap (nJ (aI (aQ _ dT)) R))<|fN R (by rw[D' a b ad];omega)
 refine ct d 37 (λr=>?_) (λr=>?_)
 .exact zT (bT.2 r)<|zC (Pn 1 a b c e)<|fN R ((ub a b ad).trans (Oa a b c e).symm).symm
 refine ct d 24 (λw=>?_) (λw=>?_)
 .exact zC (Pn 1 a b c e)<|fN R ((ub a b ad).trans (Oa a b c e).symm).symm
 refine ct d 36 (λs=>?_) (λs=>?_)
 .exact zT (bT.2 s)<|zC (Pn 2 a b c e)<|fN R ((uc a b ad).trans (SJ a b c e).symm).symm
 refine ct d 23 (λx=>?_) (λx=>?_)
 .exact zC (Pn 2 a b c e)<|fN R ((uc a b ad).trans (SJ a b c e).symm).symm
 refine ct d 33 (λt=>?_) (λt=>?_)
 .exact zT (bT.2 t)<|zC (Pn 3 a b c e)<|fN R ((ud a b ad).trans (Ob a b c e).symm).symm
 refine ct d 22 (λy=>?_) (λy=>?_)
 .exact zC (Pn 3 a b c e)<|fN R ((ud a b ad).trans (Ob a b c e).symm).symm
 refine ct d 30 (λf=>?_) (λf=>?_)
 .exact zT (bT.2 f)<|zC (Hg a (((b%32:Nat):Int)) 0 c ad ad ad)<|fN R ((ue a b ad).trans (La a (b%32) c ad).symm).symm
 refine ct d 25 (λl=>?_) (λl=>?_)
 .exact zC (Hg a (((b%32:Nat):Int)) 0 c ad ad ad)<|fN R ((ue a b ad).trans (La a (b%32) c ad).symm).symm
 refine ct d 34 (λg=>?_) (λg=>?_)
 .exact zT (bT.2 g)<|rW _ R (gk (by rw[Int.zero_sub];exact dd ad ad))<|zC (Hg a (-((b%32:Nat):Int)) 0 c ad ad ad)<|fN R ((uf a b ad).trans (FD a (b%32) c ad).symm).symm
 refine ct d 26 (λm=>?_) (λm=>?_)
 .exact rW _ R (gk (by rw[Int.zero_sub];exact dd ad ad))<|zC (Hg a (-((b%32:Nat):Int)) 0 c ad ad ad)<|fN R ((uf a b ad).trans (FD a (b%32) c ad).symm).symm
 refine ct d 35 (λh=>?_) (λh=>?_)
 .exact zT (bT.2 h)<|zW _ (gk (by rw[Int.zero_sub];exact dd ad ad))<|aW R (Pu a 31 c dT)<|zC (Hg a (-((b%32:Nat):Int)) (a/2 ^ 31%2) c ad ad ad)<|fN R ((tl a b ad).trans (Lb a (b%32) c ad).symm).symm
 refine ct d 27 (λn=>?_) (λn=>?_)
 .exact zW _ (gk (by rw[Int.zero_sub];exact dd ad ad))<|aW R (Pu a 31 c dT)<|zC (Hg a (-((b%32:Nat):Int)) (a/2 ^ 31%2) c ad ad ad)<|fN R ((tl a b ad).trans (Lb a (b%32) c ad).symm).symm
 refine ct d 31 (λi=>?_) (λi=>?_)
 .exact zT (bT.2 i)<|zC (wL a c)<|aW R (wL b e)<|rV (vB (decide ((bw a)<(bw b)))) R<|zC (ob _)<|fN R (by rw[tm a b ad];simp[aY])
 refine ct d 20 (λo=>?_) (λo=>?_)
 .exact zC (wL a c)<|aW R (wL b e)<|rV (vB (decide ((bw a)<(bw b)))) R<|zC (ob _)<|fN R (by rw[tm a b ad];simp[aY])
 refine ct d 32 (λj=>?_) (λj=>?_)
 .exact zT (bT.2 j)<|rW _ R (ak (bl _ _))<|zC (ob _)<|fN R (by rw[tn a b ad];simp[aY])
 refine ct d 21 (λp=>?_) (λp=>?_)
 .exact rW _ R (ak (bl _ _))<|zC (ob _)<|fN R (by rw[tn a b ad];simp[aY])
 refine ct d 1 (λq=>?_) (λq=>?_)
 .exact fN R (S7 a b ad).symm
 exact fN R (rz a b (by simp;omega)).symm
def bP(i:SI)(b:Nat):Nat:=if((i.op=1\/b2 i.op=84)\/((b2 i.op=73/\ ¬i.op=4)/\ ¬aj i.op=3))then i.C else b
def Yt{i}{b}(c:i.C<=4294967295)(a:b<=4294967295):bP i b<=4294967295:=by unfold bP;split<;>assumption
def Wf{i}{b}(h:aj i.op=1\/aj i.op=2):bP i b=b:=by
 unfold bP;refine dZ ?_;have:=oG i.op;have:=dN i.op;omega
def z5(i)(a b):b7 i.op a (bP i b)=b7 i.op a (if UB i.op=true then i.C else b):=by
 by_cases h:((i.op=1\/b2 i.op=84)\/((b2 i.op=73/\ ¬i.op=4)/\ ¬aj i.op=3))↔UB i.op=true
 .unfold bP;simp[h]
 have c:i.op=11\/i.op=12\/i.op=13\/i.op=14\/i.op=15:=by
  have d:=oG i.op;have e:=dN i.op;simp[UB,dE,aP,aY]at h;omega
 rw[rz _ _ (by simp;omega),rz _ _ (by simp;omega)]
def rB(i)(b:Nat)(f:i.C<=4294967295)(e:b<=4294967295):bI C0 61 [g9 i,vU b] (vU (bP i b)):=by
 refine bc func61 R ?_;refine zC (Vs _) ?_;refine zV (vB (i.op==1))<|aw R id (ak (ba _ _))<|zN R (by simp)<|aw R id (ak (ba _ _))<|zG R id<|gS R id<|aw R id R<|pB R R R R (λh=>h) R R (λa d=>by first|(rw[a,d];rfl)|simp_all)<|zG rfl id<|gS rfl id ?_;refine jQ rfl rfl rfl rfl (λh=>h) R R R (.inl R) R (λa=>SE _)<|aw R id (ak (db _ _))<|pB R R R R (λh=>h) R R (λa d=>by first|(rw[a,d];rfl)|simp_all)<|zN rfl (by simp) ?_;refine ci ((i.op=1\/(b2 i.op)=84)\/(((b2 i.op)=73/\ ¬i.op=4)/\ ¬(aj i.op)=3)) (wP _ _ (wP _ _ bT bT) (uA _ _ (uA _ _ bT jh) jh)) (λc=>?_) (λc=>?_)
 .exact fI R (by unfold bP;rw[aa c])
 exact fI R (by unfold bP;rw[dZ c])
def zs(i)(pc a b:Nat)(g:i.C<=4294967295)(k:pc<=4294967295)(j:a<=4294967295)(f:b<=4294967295):bI C0 36 [g9 i,vU pc,vU a,vU b] (vU (BF i.op i.C pc a b)):=by
 refine bc func36 R ?_;refine zC (rB i b g f) ?_;refine aW R (SE _)<|zW _ (ak (ba _ _)) ?_;refine dx (aj i.op) 1 (λc=>?_) (λc=>?_)
 .exact zC (B_ i.op a (bP i b) j (Yt g f))<|fN R (by unfold BF;rw[Wf (.inl c),aa c])
 refine aW R (SE _)<|zW _ (ak (ba _ _)) ?_;refine dx (aj i.op) 2 (λd=>?_) (λd=>?_)
 .exact zC (C2 i.op a (bP i b) j (Yt g f))<|fN R (by unfold BF;rw[Wf (.inr d),dZ c,aa d])
 refine ct i.op 2 (λe=>?_) (λe=>?_)
 .skip
  have l:(pc+i.C)%4294967296<=4294967295:=aI (aQ _ dT);exact zV (vU ((pc+i.C)%4294967296))<|fN R (by unfold BF;rw[dZ c,dZ d,aa e])
 refine zV (vB (i.op==3))<|gS R id<|aw R id R<|zN R (by simp) ?_;refine ci (i.op=3\/i.op=4) (wP _ _ bT bT) (λh=>?_) (λh=>?_)
 .skip
  have m:(pc+4)%4294967296<=4294967295:=aI (aQ _ dT);exact zV (vU ((pc+4)%4294967296))<|fN R (by unfold BF;rw[dZ c,dZ d,dZ e,aa h])
 exact zC (T0 i.op a (bP i b) j (Yt g f))<|fN R (by unfold BF;rw[z5,dZ c,dZ d,dZ e,dZ h])
def Mp{prog}{pc k x}(h:pc=4*k)(a:prog[k]?=some x):es prog pc=some x:=by
 unfold es;rw[aa ad,(oT:pc/4=k),a]
def Pk{prog}{pc}(h:∀i,i<prog.length->pc≠4*i):es prog pc=none:=by
 refine NC ?_;by_cases a:pc%4=0
 .exact .inr (Nat.le_of_not_lt λb=>h _ b ad)
 exact .inl a
def D_(o:Option Nat):AV:=.F [vU (o.getD 0),vB o.isSome]
def y4(prog)(pc:Nat)(a)(hp:∀x∈prog,x<=4294967295)(m:prog.length<=1000000)(j:pc<=4294967295):bI C0 31 [.Y 1 (prog.map dU) a,vU pc] (D_ (es prog pc)):=by
 refine bc func31 R ?_;refine zW _ (am (λn:Nat=>b1.ok (vI (n:Int))) (aH ..))<|dk (κ:=Nat) (λk=>⟨a6 [(0,.Y 1 (prog.map dU) a),(1,vU pc),(4,.v (.int .u32 0)),(5,vB false),(8,.Y 1 (prog.map dU) a),(9,vI ((prog.length:Nat):Int)),(10,vI (k:Int))],aq [],5⟩) (λk=>k<=prog.length/\∀i,i<k->pc≠4*i) (λk=>prog.length-k) 0 (λs=>s) (au (λs=>s) wT tr R) (⟨aE _,λi h=>absurd h (dG i)⟩) ?_;intro k f;have c:k<=1000000:=aL f.1 m;refine b0 (ak (bl _ _)) (λb=>?_) (λb=>?_)
 .skip
  obtain⟨x,g⟩:∃x,prog[k]?=some x:=⟨_,aA (ax b)⟩;have o:=hp x (aB g);refine zX (dU x) (.k 1 0 (dU x)) R (by rw[Int.toNat_natCast,aX,g];rfl) ?_;refine zW _ (ap (nJ j R))<|rW _ R (ap (nJ c R)) ?_;refine rW _ R (ap (nJ (cJ (aC 4) c) R))<|b0 (ak (ba _ _)) (λd=>?_) (λd=>?_)
  .exact fT R (by rw[Mp (sU d) g];rfl)
  skip
  refine zW _ (ap (bH (aD c (aC 1)) R)) ?_;refine⟨k+1,λs=>s,au (λs=>s) wT tr R,⟨ax b,λi l=>if e:i=k then e ▸ (sU d)else f.2 i ad⟩,by have:=ax b;show prog.length-(k+1)<prog.length-k;omega⟩
 exact fT R (by rw[Pk (λi l=>f.2 i (oH (aF b)))];rfl)
def z2(m)(a n:Nat)(d:a+n<=m.size)(b:a<=4294967295)(c:n<=4):bI C0 43 [.v (.string m),vU a,vI (n:Int)] (.v (.string (Cv m a n))):=by
 refine bc func43 R ?_;exact zW _ (ap (bH b R))<|zW _ (ap (bH b R))<|rW _ R (ap (dd ad ad))<|zM (.v (.string (Cv m a n))) R (⟨aG _,by show(a:Int)<=((a+n:Nat):Int);omega,by show((a+n:Nat):Int)<=((m.size:Nat):Int);omega⟩)<|qY R tr R R
def BK(s)(b)(a:Nat)(d:s.ok)(c:a<=4294967295):bI C0 32 [h_ s,vI b,vU a] (jl (Gc s b a)):=by
 refine eb func32 R ?_;exact pO R R<|oR 7 R<|rV (.agg [vU s.M,vU s.M,vI 0,.v (.int .u32 0),vU a,vI 0,vB false,vI b,vI 0]) R<|a1 R<|a1 R<|rE 19<|And.intro (by kernel_rfl)<|ck 0 R<|fT R R
def sR{x:Nat}(h: ¬¬g7 x=0): ¬dq x=0:=λq=>h (by unfold g7;rw[aa q];decide)
def sq(prog)(s)(v)(hp:∀x∈prog,x<=4294967295)(J:prog.length<=1000000)(l:s.ok):bI C0 18 [.Y 1 (prog.map dU) v,h_ s] (jl (gE prog s)):=by
 refine dJ func18 ?_;have w:=E1 (a8 prog s.M) (bG (KE hp s.M));have o:=IK (a8 prog s.M);have K:=pq (a8 prog s.M);obtain⟨i,hI⟩:∃i,be (a8 prog s.M)=i:=⟨_,R⟩;have c:rA prog s=i:=hI;rw[hI]at w o K;replace o:0<=i.rd/\i.rd<32/\0<=i.y/\i.y<32/\0<=i.A/\i.A<32/\i.C<=4294967295:=⟨o.1,o.2.1,o.2.2.1,o.2.2.2.1,o.2.2.2.2.1,o.2.2.2.2.2.1,aI o.2.2.2.2.2.2⟩;obtain⟨a,j⟩:∃a,s.r i.y.toNat=a:=⟨_,R⟩;obtain⟨b,k⟩:∃b,s.r i.A.toNat=b:=⟨_,R⟩;have C:a<=4294967295:=j ▸ l.r _;have y:b<=4294967295:=k ▸ l.r _;have L:qP i.op i.C s.M a b<=4294967295:=aI (Ed _ _ _ _ _);refine qS 0 R<|rV (vB (s.halt != 0)) R ?_;refine cr 0 R<|j3 (¬s.halt=0) jh (λd=>?_) (λd=>?_)
 .exact qC 0 R<|rV (.agg [.v (.int .u32 0),.v (.int .u32 0),vI 0,.v (.int .u32 0),.v (.int .u32 0),vI 0,vB false,vI 0,vI 0]) R<|cg 0 R<|fT R (by unfold gE;rw[dZ d];rfl)
 refine qC 0 R<|aW R (y4 prog s.M v hp J l.M) ?_;refine cr 0 R<|j3 (¬(((es prog s.M).isSome)=true)) (th Iff.rfl) (λe=>?_) (λe=>?_)
 .exact qC 0 R<|aW R (BK s 1 0 l dT)<|cg 0 R<|fT R (by unfold gE;rw[aa (cw.1 d),dZ e];rfl)
 refine qC 0 R<|aW R (w)<|qR 0 R<|rW (vB ((g7 (a8 prog s.M)) != 0)) R (ak (db _ _)) ?_;refine cr 0 R<|j3 (¬(g7 (a8 prog s.M))=0) jh (λf=>?_) (λf=>?_)
 .exact qC 0 R<|aW R (BK s 2 0 l dT)<|cg 0 R<|fT R (by unfold gE;rw[aa (cw.1 d),aa (cw.1 e),aa (dw λq=>f (by unfold g7;rw[dZ q]))];rfl)
 refine qC 0 R<|rV (vB (i.op==47)) R ?_;refine cr 0 R<|kg i.op 47 (λg=>?_) (λg=>?_)
 .exact qC 0 R<|aW R (BK s 6 0 l dT)<|cg 0 R<|fT R (by unfold gE;rw[aa (cw.1 d),aa (cw.1 e),dZ (sR f),c];unfold dj;rw[aa g];rfl)
 refine qC 0 R<|rV (vB (i.op==48)) R ?_;refine cr 0 R<|kg i.op 48 (λh=>?_) (λh=>?_)
 .exact qC 0 R<|aW R (BK s 7 0 l dT)<|cg 0 R<|fT R (by unfold gE;rw[aa (cw.1 d),aa (cw.1 e),dZ (sR f),c];unfold dj;rw[dZ g,aa h];rfl)
 refine qC 0 R<|nW (.ptr 0 (1+(i.y).toNat*1)) R R ad<|rW (vU a) R ((o8 _ _ _ _ _ ad).trans (by rw[j]))<|qR 0 R<|nW (.ptr 0 (1+(i.A).toNat*1)) R R ad<|rW (vU b) R ((o8 _ _ _ _ _ ad).trans (by rw[k])) ?_;refine qR 0 R<|aW R (SE i.op)<|cr 0 R<|a7<|oR 4 R<|rV (vU (b_ s.M)) R<|oR 1 R<|aW R (Yw i)<|rV (.agg [vU s.M,vU (b_ s.M),vI (wr i),.v (.int .u32 0),.v (.int .u32 0),vI 0,vB false,vI 0,vI 0]) R<|dm 57 R R<|a1 R<|rE 59 ?_;refine qX 0 R<|aW R (zs i s.M a b o.2.2.2.2.2.2 l.M C y)<|qR 0 R<|rW (vB ((aj i.op)==3)) R (ak (ba _ _)) ?_;refine qR 0 R<|aw R id (ak (ba _ _))<|bO R R R (by simp) ?_;refine cr 0 R<|j3 ((aj i.op)=3\/(aj i.op)=4) (wP _ _ bT bT) (λm=>?_) (λm=>?_)
 .refine qC 0 R<|rV (vU (fa i a)) R<|qR 0 R<|aW R (tf i.op) ?_;refine qR 0 R<|rV (vI (s.mem.size:Int)) R<|qR 0 R<|aW R (zr s.mem.size (fa i a) (bh i.op) l.mem (Ay i a) (lQ i.op)) ?_;refine cr 0 R<|j3 (¬((kZ (s.mem.size:Int) (fa i a) ((bh i.op:Nat):Int))=true)) (th Iff.rfl) (λr=>?_) (λr=>?_)
  .refine qC 0 R<|rW (vB ((aj i.op)==3)) R (ak (ba _ _)) ?_;refine cr 0 R<|kg (aj i.op) 3 (λI=>?_) (λI=>?_)
   .exact qC 0 R<|aW R (BK s 4 ((fa i a)) l (Ay i a))<|cg 0 R<|fT R (by unfold gE;rw[aa (cw.1 d),aa (cw.1 e),dZ (sR f),c];unfold dj;rw[dZ g,dZ h,aa m,j,k];unfold sN;rw[dZ r,dZ ad];rfl)
   exact qC 0 R<|aW R (BK s 5 ((fa i a)) l (Ay i a))<|cg 0 R<|fT R (by unfold gE;rw[aa (cw.1 d),aa (cw.1 e),dZ (sR f),c];unfold dj;rw[dZ g,dZ h,aa m,j,k];unfold sN;rw[dZ r,aa ad];rfl)
  refine qC 0 R<|rW (vB ((aj i.op)==4)) R (ak (ba _ _)) ?_;refine cr 0 R<|kg (aj i.op) 4 (λt=>?_) (λt=>?_)
  .refine qC 0 R<|aW R (zu b (bh i.op) y (lQ i.op)) ?_;have H:=sQ (sU r);refine qR 0 R<|aW R (zq s.mem (fa i a) (oF b (bh i.op)) (by rw[mP];exact H.1) l.mem (Ay i a) (by rw[mP];exact lQ i.op)) ?_;refine qR 0 R<|aW R (sr _ (by rw[mP];exact lQ i.op))<|cr 0 R<|pO R R ?_;exact oR 2 R<|a1 R<|a1 R<|rE 133<|And.intro (by kernel_rfl)<|ck 0 R<|fT R (by unfold gE;rw[aa (cw.1 d),aa (cw.1 e),dZ (sR f),c];unfold dj;rw[dZ g,dZ h,aa m,j,k];unfold sN;rw[aa (cw.1 r),aa t];rw[show(aj i.op==4)=true from pU.2 t];rfl)
  refine j4 0 R<|a7<|oR 3 R ?_;refine oR 5 R<|aW R (z2 s.mem (fa i a) (bh i.op) (sQ (sU r)).1 (Ay i a) (lQ i.op))<|aW R (z3 i.op _)<|oR 1 R<|rE 108<|qX 0 R<|rW (vB ((aj i.op)==5)) R (ak (ba _ _)) ?_;refine cr 0 R<|kg (aj i.op) 5 (λz=>absurd z (oH (oG i.op))) (λz=>?_);refine qC 0 R<|rW (vB ((aj i.op)==2)) R (ak (ba _ _)) ?_;refine cr 0 R<|kg (aj i.op) 2 (λA=>absurd A (oH (oG i.op))) (λA=>?_);refine qC 0 R<|rV (vB (decide ((wr i)>0))) R ?_;refine cr 0 R<|j3 ((wr i)>0) qW (λD=>?_) (λD=>?_)
  .refine qC 0 R<|nW (.ptr 67 (1+(wr i).toNat*1)) R R ad<|Ow R R (Wc R R R ad) tr ?_;exact cr 0 R<|pO R R<|oR 2 R<|a1 R<|a1 R<|rE 132<|And.intro (by kernel_rfl)<|ck 0 R<|fT R (by unfold gE;rw[aa (cw.1 d),aa (cw.1 e),dZ (sR f),c];unfold dj;rw[dZ g,dZ h,aa m,j,k];unfold sN;rw[aa (cw.1 r),dZ t,dZ ad];rw[show(aj i.op==4)=false from beq_false_of_ne t];rfl)
  exact j4 0 R<|pO R R<|oR 2 R<|a1 R<|a1 R<|rE 123<|And.intro (by kernel_rfl)<|ck 0 R<|fT R (by unfold gE;rw[aa (cw.1 d),aa (cw.1 e),dZ (sR f),c];unfold dj;rw[dZ g,dZ h,aa m,j,k];unfold sN;rw[aa (cw.1 r),dZ t,aa ad];rw[show(aj i.op==4)=false from beq_false_of_ne t];rfl)
 refine qC 0 R<|rW (vB ((aj i.op)==5)) R (ak (ba _ _)) ?_;refine cr 0 R<|kg (aj i.op) 5 (λn=>?_) (λn=>?_)
 .refine qC 0 R<|aW R (B2 i s.M a b o.2.2.2.2.2.2 l.M C y) ?_;have M:(qP i.op i.C s.M a b)%4<=3:=aI (aQ _ dT);refine qR 0 R<|nW (vU ((qP i.op i.C s.M a b)%4)) R R dT<|rW (vB (((qP i.op i.C s.M a b)%4) != 0)) R (ak (db _ _)) ?_;refine cr 0 R<|j3 (¬((qP i.op i.C s.M a b)%4)=0) jh (λu=>?_) (λu=>?_)
  .exact qC 0 R<|aW R (BK s 3 0 l dT)<|cg 0 R<|fT R (by unfold gE;rw[aa (cw.1 d),aa (cw.1 e),dZ (sR f),c];unfold dj;rw[dZ g,dZ h,dZ m,j,k];unfold oN IJ;rw[aa n,dZ u];rfl)
  refine qC 0 R<|rW (vB ((aj i.op)==2)) R (ak (ba _ _)) ?_;refine cr 0 R<|kg (aj i.op) 2 (λB=>absurd B (oH (oG i.op))) (λB=>?_);refine qC 0 R<|rV (vB (decide ((wr i)>0))) R ?_;refine cr 0 R<|j3 ((wr i)>0) qW (λE=>?_) (λE=>?_)
  .refine qC 0 R<|nW (.ptr 67 (1+(wr i).toNat*1)) R R ad<|Ow R R (Wc R R R ad) tr ?_;exact cr 0 R<|pO R R<|oR 2 R<|a1 R<|a1 R<|rE 111<|And.intro (by kernel_rfl)<|ck 0 R<|fT R (by unfold gE;rw[aa (cw.1 d),aa (cw.1 e),dZ (sR f),c];unfold dj;rw[dZ g,dZ h,dZ m,j,k];unfold oN IJ;rw[aa n,aa (cw.1 u),dZ ad];rfl)
  exact j4 0 R<|pO R R<|oR 2 R<|a1 R<|a1 R<|rE 102<|And.intro (by kernel_rfl)<|ck 0 R<|fT R (by unfold gE;rw[aa (cw.1 d),aa (cw.1 e),dZ (sR f),c];unfold dj;rw[dZ g,dZ h,dZ m,j,k];unfold oN IJ;rw[aa n,aa (cw.1 u),aa ad];rfl)
 refine qC 0 R<|rW (vB ((aj i.op)==2)) R (ak (ba _ _)) ?_;refine cr 0 R<|kg (aj i.op) 2 (λp=>?_) (λp=>?_)
 .refine qC 0 R<|aW R (z4 i.op a b C y)<|qR 0 R<|rV (vB (decide ((wr i)>0))) R ?_;refine cr 0 R<|j3 ((wr i)>0) qW (λF=>?_) (λF=>?_)
  .refine qC 0 R<|nW (.ptr 67 (1+(wr i).toNat*1)) R R ad<|Ow R R (Wc R R R ad) tr ?_;exact cr 0 R<|pO R R<|oR 2 R<|a1 R<|a1 R<|rE 106<|And.intro (by kernel_rfl)<|ck 0 R<|fT R (by unfold gE;rw[aa (cw.1 d),aa (cw.1 e),dZ (sR f),c];unfold dj;rw[dZ g,dZ h,dZ m,j,k];unfold oN IJ;rw[dZ n,dZ ad,aa p];rfl)
  exact j4 0 R<|pO R R<|oR 2 R<|a1 R<|a1 R<|rE 97<|And.intro (by kernel_rfl)<|ck 0 R<|fT R (by unfold gE;rw[aa (cw.1 d),aa (cw.1 e),dZ (sR f),c];unfold dj;rw[dZ g,dZ h,dZ m,j,k];unfold oN IJ;rw[dZ n,aa ad,aa p];rfl)
 refine qC 0 R<|rV (vB (decide ((wr i)>0))) R ?_;refine cr 0 R<|j3 ((wr i)>0) qW (λG=>?_) (λG=>?_)
 .refine qC 0 R<|nW (.ptr 67 (1+(wr i).toNat*1)) R R ad<|Ow R R (Wc R R R ad) tr ?_;exact cr 0 R<|pO R R<|oR 2 R<|a1 R<|a1 R<|rE 99<|And.intro (by kernel_rfl)<|ck 0 R<|fT R (by unfold gE;rw[aa (cw.1 d),aa (cw.1 e),dZ (sR f),c];unfold dj;rw[dZ g,dZ h,dZ m,j,k];unfold oN IJ;rw[dZ n,dZ ad,dZ p];rfl)
 exact j4 0 R<|pO R R<|oR 2 R<|a1 R<|a1 R<|rE 90<|And.intro (by kernel_rfl)<|ck 0 R<|fT R (by unfold gE;rw[aa (cw.1 d),aa (cw.1 e),dZ (sR f),c];unfold dj;rw[dZ g,dZ h,dZ m,j,k];unfold oN IJ;rw[dZ n,aa ad,dZ p];rfl)
abbrev lC(x:St×Sp):List AV:=a2 x.2
def sk{prog:List Nat}{s:St}{k:Nat}(h:(bf prog s (cz prog k s)).halt=0):cz prog (k+1) s=cz prog k s+1:=by
 have a:=AB prog k s;have b:=AB prog (k+1) s;have c:cz prog k s=k:=dw λq=>Dj ad h;refine dw λq=>Dj (prog:=prog) (n:=k+1) (s:=s) ad ?_;rcases fb (cz prog (k+1) s) (cz prog k s)with l|l
 .exact Hd l
 rw[(oT:cz prog (k+1) s=cz prog k s)];exact h
def sm{prog:List Nat}{s:St}{k:Nat}(h: ¬(bf prog s (cz prog k s)).halt=0):cz prog (k+1) s=cz prog k s:=by
 have a:=AB prog k s;rcases Nat.lt_trichotomy (cz prog (k+1) s) (cz prog k s)with l|l|l
 .exact absurd (Hd l) (Dj ad)
 .exact l
 exact absurd (Hd l) h
def qL(prog:List Nat)(s:St)(k:Nat):List (List AV):=((e9 prog s (cz prog k s)).map Prod.snd).map a2
def cu(prog:List Nat)(s:St)(k:Nat):St:=bf prog s (cz prog k s)
def Jn{prog:List Nat}{s:St}{k:Nat}(h:(cu prog s k).halt=0):qL prog s (k+1)=qL prog s k++[lC (gE prog (cu prog s k))]:=by
 unfold qL;rw[sk h, <-KW,dH,dH];rfl
def Sr{prog:List Nat}{s:St}{k:Nat}(h:(cu prog s k).halt=0):cu prog s (k+1)=(gE prog (cu prog s k)).1:=by
 unfold cu;rw[sk h];rfl
def Ss{prog:List Nat}{s:St}{k:Nat}(h: ¬(cu prog s k).halt=0):qL prog s (k+1)=qL prog s k:=by
 unfold qL;rw[sm h]
def Yo{prog:List Nat}{s:St}{k:Nat}(h: ¬(cu prog s k).halt=0):cu prog s (k+1)=cu prog s k:=by
 unfold cu;rw[sm h]
def sn{prog:List Nat}{s:St}(k:Nat)(h:s.ok):(cu prog s k).ok:=Si h _
def y3(prog:List Nat)(s:St)(k:Nat):(qL prog s k).length<=k:=by
 unfold qL;rw[aH,aH,lR];exact AB prog k s
def NV(prog:List Nat)(s:St)(k:Nat):(List.take (qL prog s k).length (List.drop 0 (qL prog s k)))=qL prog s k:=by rw[bS,cH]
def Yp{S:Nat->Prop}{w:World}{v:Value}(h:av S w cy (.Y 9 [] true) v):av S w cy (.Y 9 [] false) v:=by
 cases h with
 |Y _ _ _ A c b o u f g k a e j d i=>exact .Y 9 [] false A c b o u f g (λh=>by cases h) a e j d i
def Yq{S:Nat->Prop}{w:World}{v:Value}{x:AV}(h:av S w cy (.F [x,.Y 9 [] true]) v):av S w cy (.F [x,.Y 9 [] false]) v:=by
 cases h with
 |F _ c b h=>
  refine .F _ c b λi a u p q=>?_
  match i,p with
  |0,p=>exact h 0 a u p q
  |1,p=>injection p with p;subst p;exact Yp (h 1 _ u R q)
  |i+2,p=>simp at p
def FB{a b:Bool}(h:cE a b false=true):a=true/\b=true:=by cases a<;>cases b<;>simp_all[cE]
def Hf{p q:Prop}[Decidable p][Decidable q](h:cE (decide p) (decide q) false=false): ¬p\/ ¬q:=by by_cases hp:p<;>by_cases a:q<;>simp_all[cE]
def ui(prog:List Nat)(m:ByteArray)(n:Int)(a:Bool)(hp:∀x∈prog,x<=4294967295)(j:prog.length<=1000000):bI C0 9 [.Y 1 (prog.map dU) a,.v (.string m),vI n] (.F [h_ (hv (a3 m) (e9 prog (a3 m) (cz prog (min n 10000).toNat (a3 m)))),.Y 9 (((e9 prog (a3 m) (cz prog (min n 10000).toNat (a3 m))).map Prod.snd).map a2) false]):=by
 rw[Jj];change bI C0 _ _ (.F [h_ (cu prog (a3 m) (min n 10000).toNat),.Y 9 (qL prog (a3 m) (min n 10000).toNat) false]);refine dI func9 ?_;obtain⟨Z,d⟩:∃z,a3 m=z:=⟨_,R⟩;have hZ:Z.ok:=d ▸ Jk m;have c:(cu prog Z 0).halt=0:=by rw[<-d];rfl
 rw[d];refine qS 0 R<|aW R (pw m)<|zV (.agg (c6 0 (λ_=>0) (jB m) 0))<|zV (.Y 9 [] true) ?_;refine jR (κ:=Nat) (λk=>match k with|0=>⟨a6 [(0,.Y 1 (prog.map dU) a),(2,vI n),(8,.ptr 5 0),(6,.ptr 0 0),(9,.Y 9 [] true),(10,vI ((0:Nat):Int))],aq [(5,.box (c6 ((cu prog Z 0).M) ((cu prog Z 0).r) ((cu prog Z 0).mem) ((cu prog Z 0).halt))),(0,.box (c6 0 (λ_=>0) (⟨#[]⟩:ByteArray) 0))],10⟩|k+1=>⟨a6 [(0,.Y 1 (prog.map dU) a),(2,vI n),(8,.ptr 5 0),(6,.ptr 0 0),(9,.X 10 0 ((qL prog Z (k+1)).length) false),(10,vI (((k+1):Nat):Int))],aq [(5,.box (c6 ((cu prog Z (k+1)).M) ((cu prog Z (k+1)).r) ((cu prog Z (k+1)).mem) ((cu prog Z (k+1)).halt))),(0,.box (c6 0 (λ_=>0) (⟨#[]⟩:ByteArray) 0)),(10,.arr (qL prog Z (k+1)) 9)],11⟩) (λk=>k<=10000/\(k=0\/(k:Int)<=n)) (λk=>10000-k) 0 (λs=>s) (au (λs=>s) wT ⟨⟨R,am (λs:St=>some (a'.box (c6 s.M s.r s.mem s.halt))) d,R⟩,⟨R,R,R⟩,tr⟩ R) ⟨aE _,.inl R⟩ ?_;intro k i;rcases k with _|k
 .refine qS 0 rfl<|zV (vB (decide (((0:Nat):Int)<n)))<|aw (x:=.v (.bool (decide (0<10000)))) R id (ak (bl _ _))<|zN R (λh=>h) ?_;refine zB R (λe=>?_) (λe=>?_)
  .refine zV (vB (((cu prog Z 0).halt)==0)) ?_;refine zB R (λ_=>?_) (λl=>by exact absurd c (sU l));refine zC (sq prog (cu prog Z 0) a hp j (sn 0 hZ)) ?_;refine rV (.Y 9 ([[vU (((gE prog (cu prog Z 0)).2).M),vU (((gE prog (cu prog Z 0)).2).next),vI (((gE prog (cu prog Z 0)).2).rd),vU (((gE prog (cu prog Z 0)).2).value),vU (((gE prog (cu prog Z 0)).2).W),vI (((gE prog (cu prog Z 0)).2).size),vB (((gE prog (cu prog Z 0)).2).store),vI (((gE prog (cu prog Z 0)).2).halt),vI (((gE prog (cu prog Z 0)).2).d)]]) true) R<|zF (x:=.X 35 0 1 false) (h':=an _ 35 (some (.arr ([lC (gE prog (cu prog Z 0))]) 9))) R (⟨by show 1<=1000000;decide,Nat.zero_lt_one,tr,tr⟩)<|zV (vI (IntKind.wrap .i64 (((0:Nat):Int)+1))) ?_;have q:=FB e;have p:=ax q.1;have r:=ax q.2;refine⟨0+1,λs=>match s with|10=>35|s=>s,au _ ⟨⟨R,R⟩,⟨R,R⟩,⟨R,R⟩,⟨R,R⟩,⟨am (λz=>AV.X 35 0 z false) (show 1=(qL prog Z (0+1)).length from by rw[Jn c];rfl),R⟩,⟨am (λz:Int=>AV.v (.int .i64 z)) (show IntKind.wrap .i64 (((0:Nat):Int)+1)=((0+1:Nat):Int)from by rw[dd ad ad];omega),R⟩,tr⟩ ⟨⟨R,am (λs:St=>some (a'.box (c6 s.M s.r s.mem s.halt))) (Sr c).symm,R⟩,⟨R,R,R⟩,⟨R,am (λz=>some (a'.arr z 9)) (show [lC (gE prog (cu prog Z 0))]=qL prog Z (0+1)from by rw[Jn c];rfl),R⟩,tr⟩ R,ad,(by show(10000-(0+1):Nat)<10000-0;omega)⟩
  refine ck 0 R ?_;have g:(min n 10000).toNat=0:=by have q:=Hf e;have:=i;omega
  refine⟨_,R,tr,R,λS w v o=>?_⟩;rw[g];exact Yq o
 refine qS 0 R<|zV (vB (decide ((((k+1):Nat):Int)<n)))<|aw (x:=.v (.bool (decide ((k+1)<10000)))) R id (ak (bl _ _))<|zN R (λh=>h) ?_;refine zB R (λf=>?_) (λf=>?_)
 .refine zV (vB (((cu prog Z (k+1)).halt)==0)) ?_;refine zB R (λb=>?_) (λb=>?_)
  all_goals
   first|(refine zC (sq prog (cu prog Z (k+1)) a hp j (sn (k+1) hZ)) ?_;refine rV (.Y 9 ([[vU (((gE prog (cu prog Z (k+1))).2).M),vU (((gE prog (cu prog Z (k+1))).2).next),vI (((gE prog (cu prog Z (k+1))).2).rd),vU (((gE prog (cu prog Z (k+1))).2).value),vU (((gE prog (cu prog Z (k+1))).2).W),vI (((gE prog (cu prog Z (k+1))).2).size),vB (((gE prog (cu prog Z (k+1))).2).store),vI (((gE prog (cu prog Z (k+1))).2).halt),vI (((gE prog (cu prog Z (k+1))).2).d)]]) true) rfl ?_;refine zF (x:=.X 36 0 ((List.take (qL prog Z (k+1)).length (List.drop 0 (qL prog Z (k+1)))).length+([lC (gE prog (cu prog Z (k+1)))]:List (List AV)).length) false) (h':=an (an _ 10 none) 36 (some (.arr (List.take (qL prog Z (k+1)).length (List.drop 0 (qL prog Z (k+1)))++[lC (gE prog (cu prog Z (k+1)))]) 9))) R (⟨by show(List.take (qL prog Z (k+1)).length (List.drop 0 (qL prog Z (k+1)))).length+1<=1000000;rw[NV];have:=y3 prog Z (k+1);have:=i;omega,by show 0+(qL prog Z (k+1)).length=(qL prog Z (k+1)).length;omega,tr⟩) ?_)|skip
   refine zV (vI (IntKind.wrap .i64 ((((k+1):Nat):Int)+1))) ?_;have q:=FB f;have p:=ax q.1;have r:=ax q.2
   first|(refine⟨(k+1)+1,λs=>match s with|10=>36|s=>s,au _ ⟨⟨R,R⟩,⟨R,R⟩,⟨R,R⟩,⟨R,R⟩,⟨am (λz=>AV.X 36 0 z false) (show(List.take (qL prog Z (k+1)).length (List.drop 0 (qL prog Z (k+1)))).length+1=(qL prog Z ((k+1)+1)).length from by rw[NV,Jn (sU b:(cu prog Z (k+1)).halt=0)];simp),R⟩,⟨am (λz:Int=>AV.v (.int .i64 z)) (show IntKind.wrap .i64 ((((k+1):Nat):Int)+1)=(((k+1)+1:Nat):Int)from by rw[dd ad ad];omega),R⟩,tr⟩ ⟨⟨R,am (λs:St=>some (a'.box (c6 s.M s.r s.mem s.halt))) (Sr (sU b:(cu prog Z (k+1)).halt=0)).symm,R⟩,⟨R,R,R⟩,⟨R,am (λz=>some (a'.arr z 9)) (show List.take (qL prog Z (k+1)).length (List.drop 0 (qL prog Z (k+1)))++[lC (gE prog (cu prog Z (k+1)))]=qL prog Z ((k+1)+1)from by rw[NV,Jn (sU b:(cu prog Z (k+1)).halt=0)]),R⟩,tr⟩ R,ad,(by show(10000-((k+1)+1):Nat)<10000-(k+1);omega)⟩)|(refine⟨(k+1)+1,λs=>s,au _ ⟨⟨R,R⟩,⟨R,R⟩,⟨R,R⟩,⟨R,R⟩,⟨am (λz=>AV.X 10 0 (List.length z) false) (show(qL prog Z (k+1))=qL prog Z ((k+1)+1)from(Ss (sU b:¬(cu prog Z (k+1)).halt=0)).symm),R⟩,⟨am (λz:Int=>AV.v (.int .i64 z)) (show IntKind.wrap .i64 ((((k+1):Nat):Int)+1)=(((k+1)+1:Nat):Int)from by rw[dd ad ad];omega),R⟩,tr⟩ ⟨⟨R,am (λs:St=>some (a'.box (c6 s.M s.r s.mem s.halt))) (Yo (sU b:¬(cu prog Z (k+1)).halt=0)).symm,R⟩,⟨R,R,R⟩,⟨R,am (λz=>some (a'.arr z 9)) (show(qL prog Z (k+1))=qL prog Z ((k+1)+1)from(Ss (sU b:¬(cu prog Z (k+1)).halt=0)).symm),R⟩,tr⟩ R,ad,(by show(10000-((k+1)+1):Nat)<10000-(k+1);omega)⟩)
 refine ck 0 R ?_;have g:(min n 10000).toNat=(k+1):=by have q:=Hf f;have:=i;omega
 refine qY R ⟨ga,Nat.le_of_eq (bJ _),tr⟩ R ?_;rw[g];show AV.F [h_ (cu prog Z (k+1)),.Y 9 (List.take (qL prog Z (k+1)).length (List.drop 0 (qL prog Z (k+1)))) false]=_;rw[NV]
def F'{x}(a: -9223372036854775808<=x)(b:x<9223372036854775808):wrap64 x=x:=by unfold wrap64;omega
def u4(q)(k)(agY)(left)(a):yH (Bi q k agY left a)=yH q+if k=4 then 0 else 1:=by
 unfold yH Bi;rw[mL,aU];by_cases h:k=4<;>simp[h]
def G0(q):yH (eH q).1<=yH q:=by
 cases q with
 |nil=>exact aC _
 |cons x r=>
  unfold eH;dsimp only;split
  .unfold yH;simp[List.filter_cons];by_cases h:x.kind=4<;>simp[h]
  .unfold yH;simp[List.filter_cons];by_cases h:x.kind=4<;>simp[h]
structure Bd(f:Cf)(a:Nat)(c:Co):Prop where
 Q:c.Q=f
 Z:(c.Z.length:Int)<=f.Z
 Z5:(c.L.length:Int)<=f.queue
 Z':(c.V.length:Int)<=f.V
 rd:(yH c.U:Int)<=f.m
 ret:c.N.length=a
def S3(c)(agY):((oK c agY).U=c.U/\(oK c agY).asked=c.asked)\/∃l d,(oK c agY).U=Bi c.U 4 l (lX c.Q c.asked) d/\(oK c agY).asked=wrap64 (c.asked+1):=by
 unfold oK;rcases a:iQ c.data c.U c.mem agY (lX c.Q c.asked)with ⟨d,q,b⟩;show(q=c.U/\(if b=true then wrap64 (c.asked+1)else c.asked)=c.asked)\/∃l d,q=Bi c.U 4 l _ d/\(if b=true then wrap64 (c.asked+1)else c.asked)=wrap64 _;unfold iQ at a;split at a
 .cases a;exact .inl a9
 split at a
 .cases a;exact .inl a9
 split at a
 split at a
 .cases a;exact .inr ⟨_,_,R,R⟩
 cases a;exact .inl a9
def E8(c)(agY):yH (oK c agY).U<=yH c.U:=by
 rcases S3 c agY with ⟨h, -⟩|⟨l,d,h, -⟩
 .rw[h];exact aC _
 rw[h,u4,aa rfl];exact aC _
def G1(c)(agY):(oK c agY).Q=c.Q/\(oK c agY).Z=c.Z/\(oK c agY).L=c.L/\(oK c agY).V=c.V/\(oK c agY).N=c.N:=by
 rw[<-uY];exact⟨R,R,R,R,R⟩
theorem Bd.ZJ{f}{a}{c}(h:Bd f a c)(agY):Bd f a (oK c agY):=by
 let⟨h1,h2,h3,h4,bb⟩:=G1 c agY;have:=E8 c agY;exact⟨h1.trans h.Q,h2 ▸ h.Z,h3 ▸ h.Z5,h4 ▸ h.Z',oH h.rd,bb ▸ h.ret⟩
def K5{c}{b}(h:tA c b=true):(yH c.U:Int)<c.Q.m:=by
 unfold tA at h;split at h
 .exact ax h
 have:=ax h;omega
theorem Bd.ask{f}{a}{c}(h:Bd f a c){k}{b}(hr:tA c b=true\/k=4)(agY)(d):Bd f a (jE c k agY d):=by
 refine⟨h.Q,h.Z,h.Z5,h.Z',?_,h.ret⟩;show((yH (Bi c.U k agY _ d):Nat):Int)<=_;rw[u4];have e:=h.rd;rcases hr with hr|hr
 .have:=K5 hr;rw[h.Q]at this;split<;>omega
 rw[aa hr];omega
def I8{f}{a}{c}(h:Bd f a c):Bd f a (lM c):=by
 have b:Bd f a (jJ c):=⟨h.Q,h.Z,h.Z5,h.Z',by have:=G0 c.U;have:=h.rd;show((yH (eH c.U).1:Nat):Int)<=_;omega,h.ret⟩;rw[kC];split
 .unfold ip
  repeat' split
  .exact⟨b.Q,by show((List.map _ _).length:Int)<=_;rw[aH];exact b.Z,b.Z5,b.Z',b.rd,b.ret⟩
  .exact⟨b.Q,b.Z,b.Z5,b.Z',b.rd,b.ret⟩
  .exact b.ZJ _
  .exact⟨b.Q,b.Z,b.Z5,b.Z',b.rd,b.ret⟩
  exact b
 exact b
def K6(l)(i):(DY l i).length<=l.length:=by
 unfold DY;split
 .rename_i e a;have:=(Em.1 a).1;rw[aU,aM];simp;omega
 exact aC _
def I9{f}{a}{c}(h:Bd f a c)(b:0<=f.queue):Bd f a (kK c):=by
 have d:=nN c;unfold kK;split
 .exact h
 split
 .rename_i i _;exact⟨h.Q,by have:=K6 (b5 c) i;have:=h.Z;show((DY _ i).length:Int)<=_;omega,b,h.Z',h.rd,h.ret⟩
 exact⟨h.Q,by have:=h.Z;show((b5 c).length:Int)<=_;omega,h.Z5,h.Z',h.rd,h.ret⟩
def v0{f}{a}{c}(h:Bd f a c)(s)(g: ¬(s.store=true/\(c.V.length:Int)>=c.Q.V)):Bd f (a+1) (fZ c s):=by
 refine⟨h.Q,h.Z,h.Z5,?_,h.rd,by show(c.N++[s]).length=_;rw[aU,h.ret];rfl⟩;show(((match iJ s with|some p=>c.V++[p]|none=>c.V).length:Nat):Int)<=_;split
 .rename_i p hp;have b:s.store=true:=by
   unfold iJ at hp;split at hp
   .cases hp
   .rename_i q;cases e:s.store with
    |true=>rfl
    |false=>exact absurd (.inl e) q
  have d: ¬(c.V.length:Int)>=c.Q.V:=λq=>g ⟨b,q⟩;rw[h.Q]at d;rw[aU];show((c.V.length+1:Nat):Int)<=_;omega
 .exact h.Z'
def H0{f}{a}{c}(h:Bd f a c)(e)(b: ¬((cA e).store=true/\(c.V.length:Int)>=c.Q.V)):Bd f (a+1) (Bm c e):=by
 have k:=v0 h _ b;exact⟨k.Q,by have:=h.Z;show((c.Z.drop 1).length:Int)<=_;rw[bD];omega,k.Z5,k.Z',k.rd,k.ret⟩
def H1{f}{a}{c}(h:Bd f a c)(e)(b: ¬((cA e).store=true/\(c.V.length:Int)>=c.Q.V)):Bd f (a+1) (MP c e):=by
 have k:=(v0 h _ b).ZJ (cA e).W;rw[<-uY]at k;exact⟨k.Q,by have:=h.Z;show((c.Z.drop 1).length:Int)<=_;rw[bD];omega,k.Z5,k.Z',k.rd,k.ret⟩
theorem q6{f:Cf}(d:0<=f.Z/\0<=f.queue):∀(n:Nat) (c:Co) (a:Nat),Bd f a c->∃b,a<=b/\b<=a+n/\Bd f b (c5 n c)
 |0,c,a,h=>⟨a,aC _,aC _,h⟩
 | n + 1,c,a,h=>by
  by_cases j:c.halt≠0\/c.Z.length=0
  .rw[mG j];exact⟨a,aC _,oT,h⟩
  .have m:c.Z[0]?=some (c.Z[0]'ad):=aA ad;rw[iX ad (λq=>j (.inl q)) m];split
   .exact⟨a,aC _,oT,h⟩
   .split
    .exact⟨a+1,oT,oT,⟨h.Q,d.1,d.2,h.Z',h.rd,by show(c.N++[_]).length=_;rw[aU,h.ret];rfl⟩⟩
    .split
     .exact⟨a,aC _,oT,h⟩
     .rename_i i;rw[kB];by_cases g:aj (c.Z[0]'ad).i.op=3
      .rw[Ke g];let⟨b,k,l,e⟩:=q6 d n _ _ (H1 h _ i);exact⟨b,oT,oT,e⟩
      .rw[An g];let⟨b,k,l,e⟩:=q6 d n _ _ (H0 h _ i);exact⟨b,oT,oT,e⟩
theorem Bd.setE{f:Cf}{a:Nat}{c:Co}(h:Bd f a c)(i:Nat)(e:ai):Bd f a (fh c i e):=⟨h.Q,by show((c.Z.set i e).length:Int)<=_;rw[cC];exact h.Z,h.Z5,h.Z',h.rd,h.ret⟩
def K7{f}{a}{c}(h:Bd f a c)(i):Bd f a (oE c i):=by
 unfold oE
 cases c.Z[i]? with
 |none=>exact h
 |some e=>
  dsimp only
  repeat' split
  all_goals first|exact h|exact h.setE _ _|(rename_i q;exact(h.ask (.inl q.1) _ _).setE _ _)
def I_{f}{a}{c}(h:Bd f a c)(i):Bd f a (iS c i):=by
 unfold iS
 cases c.Z[i]? with
 |none=>exact h
 | some e=>
  dsimp only;split
  .exact h.setE _ _
  .split
   .exact K7 (h.setE _ _) i
   .exact h.setE _ _
theorem vf{f:Cf}{a:Nat}:∀(p:List Nat) (c:Co),Bd f a c->Bd f a (p.foldl iS c)
 |[],_,h=>h
 |i::p,_,h=>vf p _ (I_ h i)
def H2{f}{a}{c}(h:Bd f a c):Bd f a (gY c):=by
 unfold gY;split
 .exact h
 exact vf _ c h
theorem u5{f:Cf}{a:Nat}:∀(n:Nat) (c:Co),Bd f a c->Bd f a (ez n c)
 |0,_,h=>h
 | n+1,c,h=>by
  by_cases b:(c.Z.length:Int)>=c.Q.Z\/c.L.length=0
  .rw[Ap b];exact h
  .have g:c.L[0]?=some (c.L[0]'ad):=aA ad;have e:=CU (n:=n+1) (k:=0) ad (λq=>b (.inl q)) g;rw[(oT:n+1-(0+1)=n),(oT:n+1-0=n+1)]at e;rw[<-e];have d:=h.Q;refine u5 n _ ⟨h.Q,?_,?_,h.Z',h.rd,h.ret⟩
   .show((c.Z++[_]).length:Int)<=_;rw[aU];show((c.Z.length+1:Nat):Int)<=_;rw[d]at b;omega
   .have:=h.Z5;show((c.L.drop 1).length:Int)<=_;rw[bD];omega
def H4{f}{a}{c}(h:Bd f a c):Bd f a (lP c):=by
 unfold lP;split
 .exact h
 exact u5 _ c h
theorem uw{f:Cf}{a:Nat}:∀(n:Nat) (c:Co),Bd f a c->Bd f a (ed n c)
 |0,_,h=>h
 | n +1,c,h=>by
  by_cases b:c.stop=true\/(c.L.length:Int)>=c.Q.queue
  .rw[yZ b];exact h
  .have g:((c.L.length+1:Nat):Int)<=f.queue:=by have:=h.Q;rw[this]at b;omega
   by_cases d:(es c.prog c.J).isSome=false
   .rw[Aq ad b d];exact⟨h.Q,h.Z,by show((c.L++[_]).length:Int)<=_;rw[aU];exact g,h.Z',h.rd,h.ret⟩
   .by_cases i:(bK c.u (ao c.J)).2.isSome=false
    .rw[uD ad b d i];split
     .rename_i q;exact h.ask (.inl q.2) _ _
     .exact h
    .have e:=BC (n:=n+1) (k:=0) ad b d i;rw[(oT:n+1-(0+1)=n),(oT:n+1-0=n+1)]at e;rw[<-e];refine uw n _ ?_;have r:∀w,(dM (lJ c) w).1.Q=c.Q/\(dM (lJ c) w).1.Z=c.Z/\(dM (lJ c) w).1.L=c.L/\(dM (lJ c) w).1.V=c.V/\(dM (lJ c) w).1.U=c.U/\(dM (lJ c) w).1.N=c.N:=by
      intro w;unfold dM
      repeat' split
      all_goals exact⟨R,R,R,R,R,R⟩
     let⟨j,k,l,m,o,p⟩:=r (a8 c.prog c.J);refine⟨j.trans h.Q,?_,?_,?_,?_,?_⟩
     .show(((dM (lJ c) (a8 c.prog c.J)).1.Z.length:Nat):Int)<=_;rw[k];exact h.Z
     .show((((dM (lJ c) (a8 c.prog c.J)).1.L++[_]).length:Nat):Int)<=_;rw[l,aU];exact g
     .show(((dM (lJ c) (a8 c.prog c.J)).1.V.length:Nat):Int)<=_;rw[m];exact h.Z'
     .show((yH (dM (lJ c) (a8 c.prog c.J)).1.U:Nat):Int)<=_;rw[o];exact h.rd
     .show(dM (lJ c) (a8 c.prog c.J)).1.N.length=_;rw[p];exact h.ret
def G2{f}{a}{c}(h:Bd f a c):Bd f a (eN c):=by
 unfold eN;split
 .exact h
 exact uw _ c h
def H5{f}{a}{c}(h:Bd f a c):Bd f a (tY c):=by
 have e:Bd f a (bg c):=by
  refine⟨h.Q,h.Z,h.Z5,?_,h.rd,h.ret⟩;have:=h.Z';show(((sL c.V c.data).1.length:Nat):Int)<=_;unfold sL
  repeat' split
  all_goals first|omega|(rename_i b _;rw[b]at this;simp at this⊢;omega)|(rename_i b;simp[b]at this⊢;omega)|(simp at this⊢;omega)
 have i:∀{d:Co},Bd f a d->Bd f a (f_ d):=λ{d} k=>by
  unfold f_;split
  .exact k
  split
  .rename_i q;exact k.ask (.inl q.2) _ _
  exact k
 have g:∀{d:Co},Bd f a d->Bd f a (ec d):=λ{d} k=>by
  unfold ec;split
  .exact k
  unfold pE;split
  .split
   .rename_i w _ _;have q:=k.ask (b:=true) (.inr R) w.S w.data;exact⟨q.Q,q.Z,q.Z5,q.Z',q.rd,q.ret⟩
   exact k
  exact k
 rw[mO];split
 .exact g (i e)
 exact g e
def K8{f}(d:0<=f.Z/\0<=f.queue){c}{a}(h:Bd f a c):∃b,a<=b/\b<=a+f.o.toNat/\Bd f b (uG c):=by
 unfold uG;split
 .have k:Bd f a (s0 c):=⟨h.Q,h.Z,h.Z5,h.Z',h.rd,h.ret⟩;have g:=I9 (I8 k) d.2;let⟨b,i,e,j⟩:=q6 d (kK (lM (s0 c))).Q.o.toNat _ a g;rw[g.Q]at e;exact⟨b,i,e,H5 (G2 (H4 (H2 j)))⟩
 exact⟨a,aC _,oT,h⟩
def gh(e):xJ e=true↔((0<=e.is/\e.is<=3)/\(e.is=1->0<e.left)/\(e.is≠1->e.left=0)/\(e.is=2->aj e.i.op=3/\e.known=true)/\(e.halt≠0->e.is=3\/(e.is=1/\aj e.i.op=5/\e.halt=3))/\(Xq e.i=true\/e.halt=1\/e.halt=2)):=by
 unfold xJ;by_cases i:e.is<0\/e.is>3
 .rw[aa i];exact⟨λh=>(by cases h),λh=>by omega⟩
 rw[dZ i];by_cases f:(e.is=1/\e.left<=0)\/(e.is≠1/\e.left≠0)
 .rw[aa f];refine⟨λh=>(by cases h),λ⟨_,a,b,_⟩=>?_⟩;rcases f with ⟨x,y⟩|⟨x,y⟩
  .have:=a x;omega
  .exact absurd (b x) y
 rw[dZ f];by_cases c:e.is=2/\(aj e.i.op≠3\/e.known=false)
 .rw[aa c];refine⟨λh=>(by cases h),λ⟨_,_,_,a,_⟩=>?_⟩;have:=a c.1;rcases c.2 with x|x
  .exact absurd this.1 x
  .rw[this.2]at x;cases x
 rw[dZ c];by_cases d:e.halt≠0/\e.is≠3/\ ¬(e.is=1/\aj e.i.op=5/\e.halt=3)
 .rw[aa d];refine⟨λh=>(by cases h),λ⟨_,_,_,_,a,_⟩=>?_⟩;rcases a d.1 with x|x
  .exact absurd x d.2.1
  .exact absurd x d.2.2
 rw[dZ d];have k:e.is=2->aj e.i.op=3/\e.known=true:=λx=>by
  refine⟨dw λy=>c ⟨x,.inl y⟩,?_⟩
  cases n:e.known with
  |true=>rfl
  |false=>exact absurd ⟨x,.inr n⟩ c
 have l:e.halt≠0->e.is=3\/(e.is=1/\aj e.i.op=5/\e.halt=3):=λx=>dw λy=>d ⟨x,λz=>y (.inl z),λz=>y (.inr z)⟩;have j:e.is=1->0<e.left:=λx=>dw λy=>f (.inl ⟨x,oT⟩);have m:e.is≠1->e.left=0:=λx=>dw λy=>f (.inr ⟨x,y⟩);by_cases g:Xq e.i=true
 .rw[aa g];exact⟨λ_=>⟨oT,j,m,k,l,.inl g⟩,λ_=>rfl⟩
 .rw[dZ g];refine⟨λh=>⟨oT,j,m,k,l,.inr (sU h)⟩,λ⟨_,_,_,_,_,a⟩=>?_⟩;rcases a with a|a
  .exact absurd a g
  .simpa using a
structure eS(M:Int)(e:ai):Prop where
 st:xJ e=true
 kn:e.known=true->aj e.i.op=3\/aj e.i.op=4->kZ M e.W (bh e.i.op)=true
 s4:aj e.i.op=4->e.is=0\/e.is=3
 k4:aj e.i.op=4->e.is=3->e.halt=0->e.known=true
theorem eS.go{M}{e}(h:eS M e):eS M (bn e):=by
 let⟨h1,h2,h3,h4,b4,bb⟩:=(gh e).1 h.st;unfold bn;by_cases c:e.is≠1
 .rwa[aa c]
 rw[dZ c];have f:aj e.i.op≠4:=λq=>by rcases h.s4 q with x|x<;>omega
 by_cases d:wrap64 (e.left-1)<=0
 .rw[aa d];refine⟨(gh _).2 ⟨by simp,λq=>absurd q (by simp),λ_=>rfl,λq=>absurd q (by simp),λ_=>.inl R,bb⟩,λa b=>?_,λq=>absurd q f,λq=>absurd q f⟩;refine h.kn ?_ b;have a:(if aj e.i.op=5/\e.halt=0 then true else e.known)=true:=a;have b:aj e.i.op=3\/aj e.i.op=4:=b
  rwa [dZ ad]at a
 rw[dZ d];refine⟨(gh _).2 ⟨h1,λ_=>by show 0<wrap64 _;omega,λq=>absurd (cw.1 c) q,h4,b4,bb⟩,h.kn,h.s4,h.k4⟩
def I4{c}{a b}(d:aj c=2)(g:a<=4294967295)(h:b<=4294967295):0<e8 c a b:=by
 have i:42<=c/\c<=45:=by
  unfold aj at d
  (repeat' split at d)<;>omega
 unfold e8;rw[dZ ad];split
 .decide
 rename_i q;have e:cd c b<=cd c a:=oT;have f:=yJ c b ad (λz=>q (.inl z));have:=Kz (cd c b) (cd c a) (pT c b ad) (pT c a ad) oT ad;omega
theorem eS.start{M}{e}(h:eS M e){a b}(l:a<=4294967295)(m:b<=4294967295):eS M (rJ e a b):=by
 let⟨h1,h2,h3,h4,b4,bb⟩:=(gh e).1 h.st;unfold rJ;by_cases g:e.is≠0\/aj e.i.op=3\/aj e.i.op=4
 .rwa[aa g]
 rw[dZ g];have f:e.halt=0:=dw λq=>by rcases b4 q with x|x<;>omega
 have c:aj e.i.op≠4:=λq=>g (.inr (.inr q));have d: ¬(aj e.i.op=3\/aj e.i.op=4):=λq=>g (.inr q);by_cases k:aj e.i.op=1
 .rw[aa k];exact⟨(gh _).2 ⟨by simp,λ_=>by simp,λq=>absurd R q,λq=>absurd q (by simp),λq=>absurd f q,bb⟩,λ_ q=>absurd q d,λq=>absurd q c,λq=>absurd q c⟩
 rw[dZ k];by_cases i:aj e.i.op=2
 .rw[aa i];exact⟨(gh _).2 ⟨by simp,λ_=>by have:=I4 i l m;show(0:Int)<((e8 e.i.op a b:Nat):Int);omega,λq=>absurd R q,λq=>absurd q (by simp),λq=>absurd f q,bb⟩,λ_ q=>absurd q d,λq=>absurd q c,λq=>absurd q c⟩
 rw[dZ i];by_cases j:aj e.i.op=5
 .rw[aa j];split
  .exact⟨(gh _).2 ⟨by simp,λ_=>by simp,λq=>absurd R q,λq=>absurd q (by simp),λq=>absurd f q,bb⟩,λ_ q=>absurd q d,λq=>absurd q c,λq=>absurd q c⟩
  refine⟨(gh _).2 ⟨by simp,λ_=>by simp,λq=>absurd R q,λq=>absurd q (by simp),λ_=>.inr ⟨R,j,R⟩,?_⟩,λ_ q=>absurd q d,λq=>absurd q c,λq=>absurd q c⟩;rcases bb with x|x|x
  .exact .inl x
  .omega
  omega
 rw[dZ j];exact⟨(gh _).2 ⟨by simp,λ_=>by simp,λq=>absurd R q,λq=>absurd q (by simp),λq=>absurd f q,bb⟩,λ_ q=>absurd q d,λq=>absurd q c,λq=>absurd q c⟩
theorem eS.W{M}{e}(h:eS M e)(a):eS M (yC e M a):=by
 let⟨h1,h2,h3,h4,bb,b4⟩:=(gh e).1 h.st;unfold yC;by_cases b:(aj e.i.op≠3/\aj e.i.op≠4)\/e.is≠0\/e.known=true
 .rwa[aa b]
 rw[dZ b];have i:e.is=0:=dw λq=>b (.inr (.inl q));have g:e.halt=0:=dw λq=>by rcases bb q with x|x<;>omega
 split
 .rename_i f;exact⟨(gh _).2 ⟨h1,h2,h3,λq=>absurd (show e.is=2 from q) ad,bb,b4⟩,λ_ _=>f,h.s4,λ_ _ _=>rfl⟩
 .have c:e.known=false:=by cases d:e.known with
   |false=>rfl
   |true=>exact absurd (.inr (.inr d)) b
  refine⟨(gh _).2 ⟨by simp,λq=>absurd q (by simp),λ_=>(h3 ad),λq=>absurd q (by simp),λ_=>.inl R,?_⟩,λq=>(by rw[show e.known=true from q]at c;cases c),λ_=>.inr R,λ_ _ q=>?_⟩
  .rcases b4 with x|x|x
   .exact .inl x
   .omega
   .omega
  .have q:(if aj e.i.op=4 then(5:Int)else 4)=0:=q;split at q<;>omega
theorem eS.take{M}{e}(h:eS M e)(s):eS M (uM e s):=by
 let⟨h1,h2,h3,h4,bb,b4⟩:=(gh e).1 h.st;unfold uM;by_cases a:aj e.i.op≠3\/e.known=false\/(e.is≠0/\e.is≠2)
 .rwa[aa a]
 rw[dZ a];have c:aj e.i.op=3:=dw λq=>a (.inl q);have b:e.halt=0:=dw λq=>by rcases bb q with x|x<;>omega
 exact⟨(gh _).2 ⟨by simp,λ_=>by simp,λq=>absurd R q,λq=>absurd q (by simp),λq=>absurd b q,b4⟩,h.kn,λq=>absurd (show aj e.i.op=4 from q) ad,λq=>absurd (show aj e.i.op=4 from q) ad⟩
theorem eS.store{M}{e}(h:eS M e)(b):eS M (uF e b):=by
 let⟨h1,h2,h3,h4,b4,bb⟩:=(gh e).1 h.st;unfold uF;by_cases a:aj e.i.op≠4\/e.known=false\/e.is≠0
 .rwa[aa a]
 rw[dZ a];have f:e.is=0:=dw λq=>a (.inr (.inr q))
 have c:e.known=true:=by cases d:e.known with
  |true=>rfl
  |false=>exact absurd (.inr (.inl d)) a
 exact⟨(gh _).2 ⟨by simp,λq=>absurd q (by simp),λ_=>h3 ad,λq=>absurd q (by simp),λ_=>.inl R,bb⟩,h.kn,λ_=>.inr R,λ_ _ _=>c⟩
theorem eS.fill{M}{e}(h:eS M e)(c)(agY):eS M (wO c agY e):=by
 unfold wO;split
 .exact eS.take (e:={e with Z8:=true}) ⟨h.st,h.kn,h.s4,h.k4⟩ _
 exact h
theorem eS.wait{M}{e}(h:eS M e)(a:aj e.i.op=3)(c:e.known=true)(d:e.is=0\/e.is=2):eS M {e with is:=2}:=by
 let⟨h1,h2,cs,h4,bb,b4⟩:=(gh e).1 h.st;have b:e.halt=0:=dw λq=>by rcases bb q with x|x<;>omega
 exact⟨(gh _).2 ⟨by simp,λq=>absurd q (by simp),λ_=>cs ad,λ_=>⟨a,c⟩,λq=>absurd b q,b4⟩,h.kn,λq=>absurd (show aj e.i.op=4 from q) ad,λq=>absurd (show aj e.i.op=4 from q) ad⟩
def M8(e):(bn e).no=e.no:=by unfold bn;(repeat' split)<;>rfl
def I5(e)(a b):(rJ e a b).no=e.no:=by unfold rJ;(repeat' split)<;>rfl
def vw(e)(M)(a):(yC e M a).no=e.no:=by unfold yC;(repeat' split)<;>rfl
def qj(e)(s):(uM e s).no=e.no:=by unfold uM;split<;>rfl
def I6(e)(b):(uF e b).no=e.no:=by unfold uF;split<;>rfl
def I7(c)(agY)(e):(wO c agY e).no=e.no:=by
 unfold wO;split
 .rw[qj]
 rfl
structure eh(M nx:Int)(l:List ai):Prop where
 ev:∀e∈l,eS M e/\e.no<nx
 up:(l.map (·.no)).Pairwise (· < ·)
theorem eh.nil{M nx}:eh M nx []:=⟨λ_ h=>(List.not_mem_nil h).elim,.nil⟩
theorem eh.map{M nx}{l}(h:eh M nx l){f}(d:∀e,eS M e->eS M (f e))(a:∀e,(f e).no=e.no):eh M nx (l.map f):=by
 refine⟨λe c=>?_,?_⟩
 .obtain⟨x,b,rfl⟩:=pG.1 c;exact⟨d x (h.ev x b).1,by rw[a];exact(h.ev x b).2⟩
 rw[List.map_map,show((λe:ai=>e.no)∘f)=λe=>e.no from funext a];exact h.up
theorem eh.set{M nx}{l}(h:eh M nx l){i}{x e}(a:l[i]?=some x)(d:eS M e)(c:e.no=x.no):eh M nx (l.set i e):=by
 refine⟨λy f=>?_,?_⟩
 .rcases List.mem_or_eq_of_mem_set f with q|rfl
  .exact h.ev y q
  exact⟨d,by rw[c];exact(h.ev x (aB a)).2⟩
 rw[List.map_set,c,show(l.map _).set i x.no=l.map (·.no)from ?_]
 .exact h.up
 refine dD λj=>?_;by_cases b:i=j
 .subst b;rw[aZ (by rw[aH];exact ((Em.1 a).1)),aX,a];rfl
 rw[kX b]
theorem eh.sub{M nx}{l k}(h:eh M nx l)(a:k.Sublist l):eh M nx k:=
 ⟨λe b=>h.ev e (a.mem b),h.up.sublist (a.map _)⟩
theorem eh.cut{M nx}{l}(h:eh M nx l)(i):eh M nx (DY l i):=by
 unfold DY;split
 .rename_i e b;have c:(l.take i++[{e with K:=e.next}])=(l.set i {e with K:=e.next}).take (i+1):=by
   rw[bW,aZ ((Em.1 b).1),List.take_set_of_le (aC _)];rfl
  rw[c];have a:=(h.ev e (aB b)).1;exact(h.set b (e:={e with K:=e.next}) ⟨a.st,a.kn,a.s4,a.k4⟩ R).sub (List.take_sublist _ _)
 exact h
theorem eh.push{M nx}{l}(h:eh M nx l){e}(g:eS M e)(i:e.no=nx):eh M (nx+1) (l++[e]):=by
 refine⟨λy c=>?_,?_⟩
 .rcases dz.1 c with q|q
  .have:=h.ev y q;exact⟨this.1,oT⟩
  rw[uJ.1 q];exact⟨g,oT⟩
 rw[dH,List.pairwise_append];refine⟨h.up,List.pairwise_singleton _ _,λa f b d=>?_⟩;obtain⟨y,c,rfl⟩:=pG.1 f;have:=(h.ev y c).2;have d:b=e.no:=sU d;omega
theorem eh.right{M nx}{l}(h:eh M nx l)(c:l.length<=8):Ff l=true:=by
 unfold Ff;rw[aP,rC];refine⟨jP c,λi d=>?_⟩;unfold IB;split
 .rename_i e a;rw[aP];refine⟨?_,(h.ev e (aB a)).1.st⟩
  cases i with
  |zero=>rfl
  |succ i=>
   have f:=(Em.1 a).1;have:=List.pairwise_iff_getElem.1 h.up i _ (by rw[aH];omega) (by rw[aH];omega) ad;rw[List.getElem_map,List.getElem_map]at this;have b:l[i+1]=e:=(Em.1 a).2;rw[b]at this;unfold pn;rw[(oT:i+1-1=i),aA ad];simp[this]
 .rfl
theorem eh.V{M nx:Int}{r:Nat->Nat}{l:List ai}(h:eh M nx l):∀k,eh M nx (b3 r l k)
 |0=>h
 | k+1=>by
  have ih:=eh.V (r:=r) h k;show eh M nx (gm r (b3 r l k) k);unfold gm;split
  .rename_i e a;split
   .split
    .exact ih.set a ((ih.ev e (aB a)).1.store _) (I6 _ _)
    .exact ih
   .exact ih
  .exact ih
def m7(c:Ca)(k:Nat)(s:List Wy):(rK c k s).O.length=c.O.length/\(rK c k s).ways=c.ways:=⟨cC,R⟩
def uu(c)(agY):(tO c agY).O.length=c.O.length/\(tO c agY).ways=c.ways:=by
 unfold tO;split
 .exact m7 _ _ _
 exact⟨R,R⟩
def vc(c)(agY)(d)(b):(qZ c agY d b).1.O.length=c.O.length/\(qZ c agY d b).1.ways=c.ways:=by
 unfold qZ;split
 .split
  .exact m7 _ _ _
  split<;>exact m7 _ _ _
 exact⟨R,R⟩
def E4(c)(a)(b):(xL c a b).1.O.length=c.O.length/\(xL c a b).1.ways=c.ways:=by
 unfold xL;split
 .split
  .split
   .exact⟨R,R⟩
   exact m7 _ _ _
  exact⟨R,R⟩
 exact⟨R,R⟩
def E5(c)(agY):(wB c agY).O.length=c.O.length/\(wB c agY).ways=c.ways:=by
 unfold wB;split
 .exact m7 _ _ _
 exact⟨R,R⟩
def E6(c)(agY):(oK c agY).data.O.length=c.data.O.length/\(oK c agY).data.ways=c.data.ways:=by
 have hp:=vc c.data (ao agY) (Ga (jZ c.U c.mem) (ao agY)) false;unfold oK;rcases a:iQ c.data c.U c.mem agY (lX c.Q c.asked)with ⟨d,q,b⟩;show d.O.length=_/\d.ways=_;unfold iQ at a;split at a
 .cases a;exact⟨R,R⟩
 split at a
 .cases a;exact uu _ _
 split at a
 rename_i e;rw[e]at hp;split at a<;>(cases a;exact hp)
structure cq(q:Int)(c:Co):Prop where
 ro:eh c.mem.size c.next c.Z
 lo:0<=c.next
 nx:c.next<=q
 da:(c.data.O.length:Int)=c.Q.O/\c.data.ways=c.Q.ways
 wo:(c.u.O.length:Int)=c.Q.O/\c.u.ways=c.Q.ways
 sp:∀p∈c.V,kZ c.mem.size p.W p.data.size=true
 pg:c.prog.length<=64
def vd(c)(agY):(oK c agY).mem=c.mem/\(oK c agY).next=c.next/\(oK c agY).Z=c.Z/\(oK c agY).Q=c.Q/\(oK c agY).u=c.u/\(oK c agY).V=c.V/\(oK c agY).prog=c.prog:=by
 rw[<-uY];exact⟨R,R,R,R,R,R,R⟩
theorem cq.ZJ{q}{c}(h:cq q c)(agY):cq q (oK c agY):=by
 let⟨h1,h2,h3,h4,bb,b4,cs⟩:=vd c agY;have a:=E6 c agY;exact⟨by rw[h1,h2,h3];exact h.ro,by rw[h2];exact h.lo,by rw[h2];exact h.nx,by rw[a.1,a.2,h4];exact h.da,by rw[bb,h4];exact h.wo,by rw[b4,h1];exact h.sp,by rw[cs];exact h.pg⟩
theorem cq.Z{q}{c d}(h:cq q c)(k:eh c.mem.size c.next d.Z)(b:d.mem=c.mem)(a:d.next=c.next)(f:d.data=c.data)(g:d.u=c.u)(e:d.Q=c.Q)(i:d.V=c.V)(j:d.prog=c.prog):cq q d:=
 ⟨by rw[b,a];exact k,by rw[a];exact h.lo,by rw[a];exact h.nx,by rw[f,e];exact h.da,by rw[g,e];exact h.wo,by rw[i,b];exact h.sp,by rw[j];exact h.pg⟩
def I0{q}{c}(h:cq q c):cq q (lM c):=by
 have a:cq q (jJ c):=⟨h.ro,h.lo,h.nx,h.da,h.wo,h.sp,h.pg⟩;rw[kC];split
 .unfold ip
  repeat' split
  .exact a.Z (a.ro.map (λe b=>b.fill _ _) (λe=>I7 _ _ e)) R R R R R R R
  .have:=vc (jJ c).u (eH c.U).2.1.S oZ false;exact⟨a.ro,a.lo,a.nx,a.da,by show((qZ _ _ _ _).1.O.length:Int)=_/\(qZ _ _ _ _).1.ways=_;rw[this.1,this.2];exact a.wo,a.sp,a.pg⟩
  .exact a.ZJ _
  .have e:(rP (jJ c).mem [⟨(eH c.U).2.1.S,(eH c.U).2.1.data⟩]).size=(jJ c).mem.size:=iY ..;exact⟨by show eh _ _ _;rw[e];exact a.ro,a.lo,a.nx,a.da,a.wo,by show ∀p∈_,kZ _ _ _=true;rw[e];exact a.sp,a.pg⟩
  exact a
 exact a
def I1{q}{c}(h:cq q c):cq q (kK c):=by
 have a:eh c.mem.size c.next (b5 c):=eh.V (h.ro.map (λe b=>b.go) M8) _;unfold kK;split
 .exact h
 split
 .rename_i i _;exact h.Z (a.cut i) R R R R R R R
 exact h.Z a R R R R R R R
def HT(x n)(h:n=1\/n=2\/n=4):(oF x n).size=n:=by
 rcases h with rfl|rfl|rfl<;>rfl
def vZ{q}{c}(h:cq q c){e}(m:e∈c.Z)(l:e.is=3):cq q (fZ c (cA e)):=by
 refine⟨h.ro,h.lo,h.nx,h.da,h.wo,?_,h.pg⟩;show ∀p∈(match iJ (cA e)with|some p=>c.V++[p]|none=>c.V),_;split
 .rename_i p hp;intro y o;rcases dz.1 o with r|r
  .exact h.sp y r
  .rw [uJ.1 r];have f:=(h.ro.ev e m).1;unfold iJ at hp;split at hp
   .cases hp
   .rename_i d;have a:(cA e).store=true:=by
     cases g:(cA e).store with
     |true=>rfl
     |false=>exact absurd (.inl g) d
    have b:e.halt=0/\aj e.i.op=4:=by
     unfold cA at a;by_cases i:e.halt≠0
     .rw[aa i]at a;exact absurd (show false=true from a) (by simp)
     .by_cases k:aj e.i.op=4
      .exact⟨cw.1 i,k⟩
      .rw[dZ i,dZ k]at a
       repeat' split at a
       all_goals exact absurd (show false=true from a) (by simp)
    have n:cA e=⟨e.M,b_ e.M,wr e.i,e.value,e.W,(bh e.i.op:Nat),true,0,0⟩:=by
     unfold cA;rw[dZ (λz=>z b.1),aa b.2]
    rw[n]at hp d;injection hp with hp;have j:bh e.i.op=1\/bh e.i.op=2\/bh e.i.op=4:=by
     have d: ¬(((bh e.i.op:Nat):Int)≠1/\((bh e.i.op:Nat):Int)≠2/\((bh e.i.op:Nat):Int)≠4):=λz=>d (.inr (.inr z));omega
    have g:p.data.size=bh e.i.op:=by rw[<-hp];exact HT _ _ j
    rw[show p.W=e.W by rw[<-hp],g];exact (f.kn (f.k4 b.2 l b.1) (.inr b.2))
 .exact h.sp
def HU{q}{c}(h:cq q c){e}(b:e∈c.Z)(a:e.is=3):cq q (Bm c e):=by
 have k:=vZ h b a;exact⟨k.ro.sub (List.drop_sublist _ _),k.lo,k.nx,k.da,k.wo,k.sp,k.pg⟩
def HV{q}{c}(h:cq q c){e}(b:e∈c.Z)(a:e.is=3):cq q (MP c e):=by
 have k:=(vZ h b a).ZJ (cA e).W;rw[<-uY]at k;exact⟨eh.sub k.ro (List.drop_sublist _ _),k.lo,k.nx,k.da,k.wo,k.sp,k.pg⟩
theorem q5{q:Int}:∀(n:Nat) (c:Co),cq q c->cq q (c5 n c)
 |0,_,h=>h
 | n +1,c,h=>by
  by_cases f:c.halt≠0\/c.Z.length=0
  .rw[mG f];exact h
  .have e:c.Z[0]?=some (c.Z[0]'ad):=aA ad;have d:=aB e;rw[iX ad (λr=>f (.inl r)) e];split
   .exact h
   .rename_i a;have a:=cw.1 a;split
    .exact⟨eh.nil,h.lo,h.nx,h.da,h.wo,h.sp,h.pg⟩
    .split
     .exact h
     .rw[kB];by_cases b:aj (c.Z[0]'ad).i.op=3
      .rw[Ke b];exact q5 n _ (HV h d a)
      .rw[An b];exact q5 n _ (HU h d a)
theorem cq.setE{q:Int}{c:Co}(h:cq q c){i:Nat}{x e:ai}(d:c.Z[i]?=some x)(a:eS c.mem.size e)(b:e.no=x.no):cq q (fh c i e):=h.Z (h.ro.set d a b) R R R R R R R
def K3(e)(M)(a)(c:e.is=0):(yC e M a).known=true->(yC e M a).is=0\/e.known=false/\(yC e M a).is=0:=by
 intro b;unfold yC at b⊢;split
 .exact .inl c
 rename_i d;rw[dZ d]at b;split
 .exact .inl c
 rename_i f;rw[dZ f]at b;exact absurd (show e.known=true from b) (λz=>d (.inr (.inr z)))
def K4{q}{c}(h:cq q c){i}{x}(a:c.Z[i]?=some x)(e:aj x.i.op=3)(j:x.known=true->x.is=0):cq q (oE c i):=by
 have b:=(h.ro.ev x (aB a)).1;unfold oE;rw[a];dsimp only;split
 .exact h
 .rename_i f
  have d:x.known=true:=by cases k:x.known with
   |true=>rfl
   |false=>exact absurd k f
  have g:=b.wait e d (.inl (j d))
  repeat' split
  .exact h.setE a (b.take _) (qj _ _)
  .exact h
  .exact h.setE a (b.take _) (qj _ _)
  .exact h.setE a g R
  .exact cq.setE (c:=jE c 1 _ oZ) ⟨h.ro,h.lo,h.nx,h.da,h.wo,h.sp,h.pg⟩ a g R
  .exact h
def J3{l:List ai}{i:Nat}{x e:ai}(a:l[i]?=some x):(l.set i e)[i]?=some e:=aZ (Em.1 a).1
def I2{q}{c}{n}(f:c.E n)(h:cq q c){i}(g:∀e,c.Z[i]?=some e->e.is=0):cq q (iS c i):=by
 have d:=Cj f.ok.Z6 f.ok.r i;unfold iS
 cases a:c.Z[i]? with
 |none=>exact h
 | some e=>
  have b:=(h.ro.ev e (aB a)).1;dsimp only;split
  .exact h.setE a (b.W _) (vw _ _ _)
  .split
   .rename_i k;have j:aj (yC e c.mem.size (mI c.Z c.r i).1).i.op=3:=by
     unfold yC
     (repeat' split)<;>exact k
    exact K4 (h.setE a (b.W _) (vw _ _ _)) (J3 a) j (λz=>(K3 e _ _ (g e a) z).elim id (·.2))
   .exact h.setE a (b.start d.1 d.2) (I5 _ _ _)
def pb{l:List ai}{i j:Nat}{e:ai}(h:i≠j):(l.set i e)[j]?=l[j]? :=kX h
def F_(c){i j}(h:i≠j):(oE c i).Z[j]?=c.Z[j]? :=by
 unfold oE;split
 .rfl
 (try dsimp only)
 repeat' split
 all_goals first|rfl|exact pb h
def E7(c){i j}(h:i≠j):(iS c i).Z[j]?=c.Z[j]? :=by
 unfold iS;split
 .rfl
 (try dsimp only)
 split
 .exact pb h
 split
 .rw[F_ _ h];exact pb h
 exact pb h
theorem ve{q:Int}:∀(p:List Nat) (c:Co) (n:Nat),c.E n->n+p.length<=890000->cq q c->p.Pairwise (· < ·)->(∀i∈p,∀e,c.Z[i]?=some e->e.is=0)->cq q (p.foldl iS c)
 |[],_,_,_,_,h,_,_=>h
 |i::p,c,n,f,l,h,hp,b=>by
  have m:(i::p).length=p.length+1:=rfl;rw[m]at l;let⟨g,k⟩:=List.pairwise_cons.1 hp;refine ve p _ (n+1) (yY f ad i).1 ad (I2 f h (b i (dg ..))) k (λj d e a=>?_);have:=g j d;rw[E7 c ad]at a;exact b j (bY _ d) e a
theorem u2{agN:Int}{busy:Bool}{kinds:List Int}{can:List Bool}:∀k,(∀i∈(kA agN busy kinds can k).out,i<k/\can.getD i false=true)/\(kA agN busy kinds can k).out.Pairwise (· < ·)
 |0=>⟨λi d=>(List.not_mem_nil d).elim,.nil⟩
 | k + 1=>by
  have ih:=u2 (agN:=agN) (busy:=busy) (kinds:=kinds) (can:=can) k;have c:(∀i∈(kA agN busy kinds can k).out,i<k+1/\can.getD i false=true)/\(kA agN busy kinds can k).out.Pairwise (· < ·):=⟨λi d=>⟨oH ((ih.1 i d).1),(ih.1 i d).2⟩,ih.2⟩;show(∀i∈(IW agN kinds (kA agN busy kinds can k) k (can.getD k false)).out,_)/\(IW agN kinds (kA agN busy kinds can k) k (can.getD k false)).out.Pairwise _;unfold IW;split
  .exact c
  .split
   .exact c
   .rename_i h;split
    .exact c
    .refine⟨λi d=>?_,?_⟩
     .rcases dz.1 d with r|r
      .exact c.1 i r
      .rw[uJ.1 r]
       exact⟨oT,by cases g:can.getD k false with
        |true=>rfl
        |false=>exact absurd g h⟩
     .show((kA agN busy kinds can k).out++[k]).Pairwise _;rw[List.pairwise_append];refine⟨ih.2,List.pairwise_singleton _ _,λa e b f=>?_⟩;rw[uJ.1 f];exact(ih.1 a e).1
def J4{c}{i}{e}(h:fl c i=true)(a:c.Z[i]?=some e):e.is=0:=by
 unfold fl at h;rw[a]at h;dsimp only at h;split at h
 .cases h
 rename_i q;exact cw.1 q
def HW{q}{c}{n}(g:c.E n)(k:n+2<=890000)(h:cq q c):cq q (gY c):=by
 by_cases f:c.halt≠0
 .rw[show gY c=c from aa f];exact h
 have m:=pD g.cf;have l:=VH (agN:=c.Q.o) (busy:=c.Z.any IE) (kinds:=Fi c) (can:=Kv c) ad (Kv c).length;have d:=u2 (agN:=c.Q.o) (busy:=c.Z.any IE) (kinds:=Fi c) (can:=Kv c) (Kv c).length;rw[show gY c=(kA c.Q.o _ _ _ (Kv c).length).out.foldl iS c from dZ f];refine ve _ c n g ad h d.2 (λi j e b=>?_);have a:=(d.1 i j).2;refine J4 ?_ b;unfold Kv at a;rw[aR,aX,eZ ((Em.1 b).1)]at a;exact a
def I3{M}(c){f}{prog}(hp:∀x∈prog,x<=4294967295):eS M (qB c f prog)/\(qB c f prog).no=c:=by
 have a: ¬aj 0=4:=dT;unfold qB;split
 .exact⟨⟨(gh _).2 ⟨by simp,λq=>absurd q (by simp),λ_=>rfl,λq=>absurd q (by simp),λ_=>.inl R,.inr (.inl R)⟩,λq=>absurd (show false=true from q) (by simp),λq=>absurd (show aj 0=4 from q) a,λq=>absurd (show aj 0=4 from q) a⟩,R⟩
 split
 .exact⟨⟨(gh _).2 ⟨by simp,λq=>absurd q (by simp),λ_=>rfl,λq=>absurd q (by simp),λ_=>.inl R,.inr (.inr R)⟩,λq=>absurd (show false=true from q) (by simp),λq=>absurd (show aj 0=4 from q) a,λq=>absurd (show aj 0=4 from q) a⟩,R⟩
 rename_i d;have b:Xq (be (a8 prog f.M))=true:=(MZ _).2 (J6 _ d (CI (LN hp f.M)));split
 .exact⟨⟨(gh _).2 ⟨by simp,λq=>absurd q (by simp),λ_=>rfl,λq=>absurd q (by simp),λ_=>.inl R,.inl b⟩,λq=>absurd (show false=true from q) (by simp),λ_=>.inr R,λ_ _ q=>absurd (show(6:Int)=0 from q) (by simp)⟩,R⟩
 split
 .exact⟨⟨(gh _).2 ⟨by simp,λq=>absurd q (by simp),λ_=>rfl,λq=>absurd q (by simp),λ_=>.inl R,.inl b⟩,λq=>absurd (show false=true from q) (by simp),λ_=>.inr R,λ_ _ q=>absurd (show(7:Int)=0 from q) (by simp)⟩,R⟩
 exact⟨⟨(gh _).2 ⟨(show(0:Int)<=0/\(0:Int)<=3 from⟨by simp,by simp⟩),λq=>absurd (show(0:Int)=1 from q) (by simp),λ_=>rfl,λq=>absurd (show(0:Int)=2 from q) (by simp),λq=>absurd R q,.inl b⟩,λq=>absurd (show false=true from q) (by simp),λ_=>.inl R,λ_ q=>absurd (show(0:Int)=3 from q) (by simp)⟩,R⟩
theorem u3:∀(n:Nat) (q:Int) (c:Co),(∀x∈c.prog,x<=4294967295)->q+n<=9000000->cq q c->cq (q+n) (ez n c)
 |0,q,c,_,_,h=>by rw[(oT:q+((0:Nat):Int)=q)];exact h
 | n+1,q,c,hp,g,h=>by
  by_cases b:(c.Z.length:Int)>=c.Q.Z\/c.L.length=0
  .rw[Ap b];exact⟨h.ro,h.lo,oH h.nx,h.da,h.wo,h.sp,h.pg⟩
  .have f:c.L[0]?=some (c.L[0]'ad):=aA ad;have e:=CU (n:=n+1) (k:=0) ad (λr=>b (.inl r)) f;rw[(oT:n+1-(0+1)=n),(oT:n+1-0=n+1)]at e;rw[<-e,(oT:q+((n+1:Nat):Int)=(q+1)+(n:Nat))];have a:wrap64 (c.next+1)=c.next+1:=F' (oH h.lo) (oH h.nx);have d:=I3 (M:=c.mem.size) c.next (f:=c.L[0]'ad) hp;refine u3 n (q+1) _ hp ad ⟨?_,?_,?_,h.da,h.wo,h.sp,h.pg⟩
   .show eh c.mem.size (wrap64 (c.next+1)) (c.Z++[_]);rw[a];exact h.ro.push d.1 d.2
   .show 0<=wrap64 (c.next+1);rw[a];have:=h.lo;omega
   .show wrap64 (c.next+1)<=_;rw[a];have:=h.nx;omega
theorem uv{q:Int}:∀(n:Nat) (c:Co),cq q c->cq q (ed n c)
 |0,_,h=>h
 | n +1,c,h=>by
  by_cases b:c.stop=true\/(c.L.length:Int)>=c.Q.queue
  .rw[yZ b];exact h
  .by_cases d:(es c.prog c.J).isSome=false
   .rw[Aq ad b d];exact⟨h.ro,h.lo,h.nx,h.da,h.wo,h.sp,h.pg⟩
   .by_cases g:(bK c.u (ao c.J)).2.isSome=false
    .rw[uD ad b d g];split
     .exact⟨h.ro,h.lo,h.nx,h.da,h.wo,h.sp,h.pg⟩
     .exact h
    .have e:=BC (n:=n+1) (k:=0) ad b d g;rw[(oT:n+1-(0+1)=n),(oT:n+1-0=n+1)]at e;rw[<-e];refine uv n _ ?_;have f:=uu c.u (ao c.J);have a:cq q (lJ c):=⟨h.ro,h.lo,h.nx,h.da,by show((tO _ _).O.length:Int)=_/\(tO _ _).ways=_;rw[f.1,f.2];exact h.wo,h.sp,h.pg⟩;have i:∀w,cq q (dM (lJ c) w).1:=by
      intro w;unfold dM
      repeat' split
      all_goals exact⟨a.ro,a.lo,a.nx,a.da,a.wo,a.sp,a.pg⟩
     have k:=i (a8 c.prog c.J);exact⟨k.ro,k.lo,k.nx,k.da,k.wo,k.sp,k.pg⟩
def HX{q}{c}(h:cq q c):cq q (tY c):=by
 have a:cq q (bg c):=by
  refine⟨h.ro,h.lo,h.nx,?_,h.wo,?_,h.pg⟩
  .show((sL c.V c.data).2.1.O.length:Int)=_/\(sL c.V c.data).2.1.ways=_;unfold sL;split
   .exact h.da
   rename_i p l _;have:=E4 c.data p.W p.data;split
   .rw[this.1,this.2];exact h.da
   exact h.da
  show ∀p∈(sL c.V c.data).1,_;unfold sL;split
  .exact h.sp
  rename_i p l f;split
  .exact λy g=>h.sp y (by rw[f];exact bY _ g)
  exact h.sp
 have e:∀{d:Co},cq q d->cq q (f_ d):=λ{d} k=>by
  unfold f_;split
  .exact k
  split
  .exact⟨k.ro,k.lo,k.nx,k.da,k.wo,k.sp,k.pg⟩
  exact k
 have b:∀{d:Co},cq q d->cq q (ec d):=λ{d} k=>by
  unfold ec;split
  .exact k
  unfold pE;split
  .split
   .rename_i w _ _;have:=E5 d.data w.S;exact⟨k.ro,k.lo,k.nx,by show((wB _ _).O.length:Int)=_/\(wB _ _).ways=_;rw[this.1,this.2];exact k.da,k.wo,k.sp,k.pg⟩
   exact k
  exact k
 rw[mO];split
 .exact b (e a)
 exact b a
def l4(n lo a)(h:0<=lo/\lo<=a):0<=bV n lo a:=by unfold bV;(repeat' split)<;>omega
def L2(c:Cf)(prog:List Nat)(m:ByteArray):Bd (bZ c) 0 (fX c prog m):=
 ⟨R,l4 _ 2 8 dT,l4 _ 1 4 dT,l4 _ 1 4 dT,l4 _ 2 6 dT,R⟩
def H6(c:Cf):0<=(bZ c).Z/\0<=(bZ c).queue:=⟨l4 _ 2 8 dT,l4 _ 1 4 dT⟩
def M9{f}(d:0<=f.Z/\0<=f.queue){c}(h:Bd f c.N.length c):Bd f (uG c).N.length (uG c)/\c.N.length<=(uG c).N.length/\(uG c).N.length<=c.N.length+f.o.toNat:=by
 let⟨b,e,g,a⟩:=K8 d h;have:=a.ret;subst this;exact⟨a,e,g⟩
theorem cq.mono{q r}{c}(h:cq q c)(a:q<=r):cq r c:=⟨h.ro,h.lo,oH h.nx,h.da,h.wo,h.sp,h.pg⟩
def K2{q}{c}{n}(i:c.E n)(g:n+20<=890000)(j:q+2<=9000000)(h:cq q c):cq (q+2) (g6 c):=by
 have a:=Ql i g;have e:cq q (s3 c):=q5 _ _ (I1 (I0 ⟨h.ro,h.lo,h.nx,h.da,h.wo,h.sp,h.pg⟩));have b:cq q (eC c):=HW a.k3 ad e;have d:cq (q+2) (e6 c):=by
  show cq (q+2) (lP (eC c));have k:=pD a.k4.cf;unfold lP;split
  .exact b.mono ad
  exact(u3 _ q _ a.k4.ok.Z4 ad b).mono ad
 have f:cq (q+2) (e7 c):=by
  show cq (q+2) (eN (e6 c));unfold eN;split
  .exact d
  exact uv _ _ d
 exact HX f
def ut{x}(h:∃n,x.size=hY n):jB x=x:=by
 let⟨n,a⟩:=h;have b:x.size=16\/x.size=32\/x.size=64\/x.size=128\/x.size=256:=by rw[a];unfold hY;(repeat' split)<;>omega
 unfold jB;rw[(oT:min x.size 256=x.size),show hY x.size-x.size=0 by rcases b with e|e|e|e|e<;>rw[e]<;>rfl,List.replicate_zero,dY,show x.extract 0 x.size=x by simp]
 try (cases x;simp)
def HR{f}{a n}{q}{c}(b:c.E n)(d:Bd f a c)(h:cq q c)(l:∃n,c.mem.size=hY n):jF c=true:=by
 have m:=pD b.cf;have g:=d.Z;have i:=d.Z5;have j:=d.Z';rw[<-d.Q]at g i j;unfold jF;simp only[aP,aY,rC];refine⟨⟨⟨⟨⟨⟨⟨⟨⟨⟨⟨b.cf,h.pg⟩,?_⟩,h.ro.right ad⟩,g⟩,λe k=>(h.ro.ev e k).2⟩,?_⟩,?_⟩,b.K⟩,i⟩,j⟩,h.sp⟩
 .rw[ut l];simp
 .unfold Ax;simp[aP,aY];exact⟨⟨b.data,h.da.1⟩,h.da.2⟩
 unfold Ax;simp[aP,aY];exact⟨⟨b.u,h.wo.1⟩,h.wo.2⟩
structure ib(X:Co)(k:Nat):Prop where
 ok:(uN X k).ok (10*k)
 bd:Bd X.Q (uN X k).N.length (uN X k)
 rc:cq (1+2*k) (uN X k)
 ms:∃n,(uN X k).mem.size=hY n
 rt:jF (uN X k)=true
def J2(cf)(prog)(m)(d:cf.ok)(hp:∀x∈prog,x<=4294967295)(X)(c:X=fX cf prog m)(b:jF X=true):ib X 0:=by
 subst c;refine⟨Id cf prog m d hp,L2 cf prog m,⟨eh.nil,(show(0:Int)<=1 from dT),(show(1:Int)<=1+2*((0:Nat):Int)from dT),?_,?_,λp hp=>(List.not_mem_nil hp).elim,?_⟩,⟨_,wE m⟩,b⟩;rotate_left 2
 .show(prog.take _).length<=64;rw[aM];omega
 all_goals
  unfold jF at b;simp[aP,aY]at b
  first|let⟨⟨⟨⟨⟨⟨_,a⟩, _⟩, _⟩, _⟩, _⟩, _⟩:=b|let⟨⟨⟨⟨⟨_,a⟩, _⟩, _⟩, _⟩, _⟩:=b
  unfold Ax at a;simp[aP,aY]at a;exact⟨a.1.2,a.2⟩
theorem ib.next{X}{k}(h:ib X k)(j:k<=3000)(g:0<=X.Q.Z/\0<=X.Q.queue):ib X (k+1):=by
 have e:=EL h.ok ad h.rt;have f:uG (uN X k)=g6 (uN X k):=aa h.rt;have c:=(M9 g h.bd).1;have d:∃n,(uN X (k+1)).mem.size=hY n:=by
  let⟨n,hn⟩:=h.ms;exact⟨n,(J9 h.rt).2.2.trans hn⟩
 have i:=(Ql e ad).k7;have a:cq (1+2*((k+1:Nat):Int)) (uN X (k+1)):=by
  show cq _ (uG (uN X k));rw[f,(oT:1+2*((k+1:Nat):Int)=1+2*(k:Int)+2)];exact (K2 e ad ad h.rc)
 have b:(uN X (k+1)).E (10*k+10):=by show(uG (uN X k)).E _;rwa[f]
 exact⟨by rw[(oT:10*(k+1)=10*k+10)];exact b.ok,c,a,d,HR b c a d⟩
theorem vz{X:Co}(h:ib X 0)(a:0<=X.Q.Z/\0<=X.Q.queue):∀k,k<=3000->ib X k
 |0,_=>h
 |k+1,b=>(vz h a k ad).next ad a
def HS(cf)(prog)(m)(B:(fX cf prog m).ok 0):jF (fX cf prog m)=true:=by
 have a:∀n lo b:Int,lo<=b->lo<=bV n lo b/\bV n lo b<=b:=λn lo b h=>by unfold bV;(repeat' split)<;>omega
 have f:wA (bZ cf)=true:=by
  unfold wA jf bZ;have l:=a cf.o 1 2 dT;have o:=a cf.Z 2 8 dT;have p:=a cf.queue 1 4 dT;have q:=a cf.V 1 4 dT;have r:=a cf.m 2 6 dT;have C:=a cf.O 1 4 dT;have t:=a cf.ways 1 2 dT;have g:(1<=(if bV cf.O 1 4=3 then 2 else bV cf.O 1 4))/\(if bV cf.O 1 4=3 then 2 else bV cf.O 1 4)<=4/\(if bV cf.O 1 4=3 then 2 else bV cf.O 1 4)≠3:=by split<;>omega
  simp only[aP,aY,rC,ge_iff_le,ne_eq];refine⟨⟨⟨⟨⟨⟨⟨⟨⟨⟨⟨λx z=>?_,a cf.mode 0 2 dT⟩,l⟩,o⟩,p⟩,q⟩,r⟩,⟨g.1,g.2.1⟩⟩,g.2.2⟩,t⟩,?_⟩,?_⟩
  .obtain⟨y,_,rfl⟩:=pG.1 z;exact a y 1 8 dT
  .rw[aH,aM];omega
  rw[aM];omega
 have A:=pD f;have j:∀s w:Int,(s=1\/s=2\/s=4)->(w=1\/w=2)->Ax (CZ s w) { (bZ cf)with O:=s,ways:=w}=true:=by
  intro s w u v;rcases u with rfl|rfl|rfl<;>rcases v with rfl|rfl<;>rfl
 have c:(bZ cf).O=1\/(bZ cf).O=2\/(bZ cf).O=4:=by
  have:=a cf.O 1 4 dT;show(if bV cf.O 1 4=3 then 2 else bV cf.O 1 4)=1\/(if bV cf.O 1 4=3 then 2 else bV cf.O 1 4)=2\/(if bV cf.O 1 4=3 then 2 else bV cf.O 1 4)=4;split<;>omega
 have d:(bZ cf).ways=1\/(bZ cf).ways=2:=by
  have:=a cf.ways 1 2 dT;show bV cf.ways 1 2=1\/bV cf.ways 1 2=2;omega
 have k:=j _ _ c d;unfold jF;have D:(fX cf prog m).mem=jB m:=rfl;rw[show jB (fX cf prog m).mem=(fX cf prog m).mem from ut ⟨_,wE m⟩];simp only[aP,aY,rC];refine⟨⟨⟨⟨⟨⟨⟨⟨⟨⟨⟨f,?_⟩,by simp⟩,R⟩,?_⟩,λe i=>(List.not_mem_nil i).elim⟩,k⟩,k⟩,R⟩,?_⟩,?_⟩,λe i=>(List.not_mem_nil i).elim⟩
 .show(prog.take (min prog.length 64)).length<=64;rw[aM];omega
 .show((0:Nat):Int)<=(bZ cf).Z;omega
 .show((0:Nat):Int)<=(bZ cf).queue;omega
 show((0:Nat):Int)<=(bZ cf).V;omega
end Go.Proofs.YtiaekocjeinkjaaGreatDoor
