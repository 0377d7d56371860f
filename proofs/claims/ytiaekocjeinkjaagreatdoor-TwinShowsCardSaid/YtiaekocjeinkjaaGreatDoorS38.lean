import Derived.Test.YtiaekocjeinkjaaGreatDoorS37
set_option linter.all false
namespace Go.Proofs.YtiaekocjeinkjaaGreatDoor
open Go.Proofs.Tryz
set_option maxRecDepth 100000
set_option maxHeartbeats 4000000
open Go.RowKit
def hW(x a t:Nat)(b:x<=4294967295)(c:a<=t)(d:t<32):bI C0 60 [vU x,vN a,vN t] (.v (.int .u32 ((ar x a (t+1-a):Nat):Int))):=by
 refine bc func60 R ?_;refine rW _ R (gk (dd ad ad))<|rW _ R (gk (by rw[dd ad ad];omega))<|zC (SC x a (t+1-a) b ad ad) ?_;exact fT R R
abbrev p6(n:Nat):List AV:=[.v (.int .i64 (n:Int))]
def Mr(l:List Nat)(f:Nat)(b:f<=7):bI C0 98 [.Y 1 (l.map p6) true,vU f] (.v (.int .i64 ((hK l f:Nat):Int))):=by
 refine bc func98 R ?_;refine zW _ (ap (bH b R))<|rW _ R (am (λn:Nat=>b1.ok (.v (.int .i64 (n:Int)))) (aH ..))<|zW _ (ak (bl _ _)) ?_;refine ci (f<l.length) qW (λa=>?_) (λa=>?_)
 .skip
  refine zX (p6 (l.getD f 0)) (.k 1 0 (p6 (l.getD f 0))) R (by rw[Int.toNat_natCast,aX,aA ad,aR,aA ad];rfl) ?_;exact fI R (rfl)
 exact fN R (by show 0=l.getD f 0;rw[aR,bE ad];rfl)
def z6(f g:Nat)(h:f<=7)(i:g<=127):bI C0 99 [vU f,vU g] (.v (.int .i64 ((ks f g:Nat):Int))):=by
 refine bc func99 R ?_;refine zW _ (ak (ba _ _)) ?_;refine dx f 1 (λa=>?_) (λa=>?_)
 .refine zW _ (ak (ba _ _)) ?_;refine dx g 0 (λd=>?_) (λd=>?_)
  .exact fN R (by unfold ks;simp[a,d])
  exact fN R (by unfold ks;simp[a,d])
 refine zW _ (ak (ba _ _)) ?_;refine dx f 5 (λb=>?_) (λb=>?_)
 .refine zW _ (ak (ba _ _)) ?_;refine dx g 0 (λc=>?_) (λc=>?_)
  .exact fN R (by unfold ks;simp[a,b,c])
  refine zW _ (ak (ba _ _)) ?_;refine dx g 32 (λe=>?_) (λe=>?_)
  .exact fN R (by unfold ks;simp[a,b,c,e])
  exact fN R (by unfold ks;simp[a,b,c,e])
 refine zV (.Y 1 ([[vI 19],[vI 0],[vI 20],[vI 21],[vI 22],[vI 0],[vI 23],[vI 24]]) true)<|zC (Mr [19,0,20,21,22,0,23,24] f h) ?_;exact fN R (by unfold ks;simp[a,b])
def z7(f g:Nat)(e:f<=7)(i:g<=127):bI C0 100 [vU f,vU g] (.v (.int .i64 ((k' f g:Nat):Int))):=by
 refine bc func100 R ?_;refine zW _ (ak (ba _ _)) ?_;refine dx g 0 (λa=>?_) (λa=>?_)
 .refine zV (.Y 1 ([[vI 28],[vI 30],[vI 31],[vI 32],[vI 33],[vI 34],[vI 36],[vI 37]]) true)<|zC (Mr [28,30,31,32,33,34,36,37] f e) ?_;exact fN R (by unfold k';simp[a])
 refine zW _ (ak (ba _ _)) ?_;refine dx g 1 (λb=>?_) (λb=>?_)
 .refine zV (.Y 1 ([[vI 38],[vI 39],[vI 40],[vI 41],[vI 42],[vI 43],[vI 44],[vI 45]]) true)<|zC (Mr [38,39,40,41,42,43,44,45] f e) ?_;exact fN R (by unfold k';simp[a,b])
 refine zW _ (ak (ba _ _))<|aw (x:=vB (f==0)) R id (ak (ba _ _))<|zN R (λh=>h) ?_;refine ci (g=32/\f=0) (uA _ _ bT bT) (λc=>?_) (λc=>?_)
 .exact fN R (by unfold k';simp[a,b,c])
 refine zW _ (ak (ba _ _))<|aw (x:=vB (f==5)) R id (ak (ba _ _))<|zN R (λh=>h) ?_;refine ci (g=32/\f=5) (uA _ _ bT bT) (λd=>?_) (λd=>?_)
 .exact fN R (by unfold k';simp[a,b,c,d])
 exact fN R (by unfold k';simp[a,b,c,d])
def ED(x:Nat)(m:x<=4294967295):bI C0 57 [vU x] (.v (.int .i64 ((ca x:Nat):Int))):=by
 refine bc func57 R ?_;refine zC (hW x 12 14 m dT dT)<|zC (hW x 25 31 m dT dT) ?_;refine zW _ (ak (ba _ _)) ?_;refine dx x 15 (λa=>?_) (λa=>?_)
 .exact fN R (by unfold ca gl;simp[a])
 refine zW _ (ak (ba _ _)) ?_;refine dx x 115 (λb=>?_) (λb=>?_)
 .exact fN R (by unfold ca gl;simp[a,b])
 refine zW _ (ak (ba _ _)) ?_;refine dx x 1048691 (λc=>?_) (λc=>?_)
 .exact fN R (by unfold ca gl;simp[a,b,c])
 refine zC (hW x 0 6 m dT dT)<|zW _ (ak (ba _ _)) ?_;refine dx (ar x 0 7) 55 (λd=>?_) (λd=>?_)
 .exact fN R (by unfold ca gl;simp[a,b,c,d])
 refine zW _ (ak (ba _ _)) ?_;refine dx (ar x 0 7) 23 (λe=>?_) (λe=>?_)
 .exact fN R (by unfold ca gl;simp[a,b,c,d,e])
 refine zW _ (ak (ba _ _)) ?_;refine dx (ar x 0 7) 111 (λf=>?_) (λf=>?_)
 .exact fN R (by unfold ca gl;simp[a,b,c,d,e,f])
 refine zW _ (ak (ba _ _)) ?_;refine dx (ar x 0 7) 103 (λh=>?_) (λh=>?_)
 .refine zV (.Y 1 ([[vI 4]]) true)<|zC (Mr [4] (ar x 12 3) (gQ R)) ?_;exact fN R (by unfold ca gl;simp[a,b,c,d,e,f,h])
 refine zW _ (ak (ba _ _)) ?_;refine dx (ar x 0 7) 99 (λi=>?_) (λi=>?_)
 .refine zV (.Y 1 ([[vI 5],[vI 6],[vI 0],[vI 0],[vI 7],[vI 8],[vI 9],[vI 10]]) true)<|zC (Mr [5,6,0,0,7,8,9,10] (ar x 12 3) (gQ R)) ?_;exact fN R (by unfold ca gl;simp[a,b,c,d,e,f,h,i])
 refine zW _ (ak (ba _ _)) ?_;refine dx (ar x 0 7) 3 (λk=>?_) (λk=>?_)
 .refine zV (.Y 1 ([[vI 11],[vI 12],[vI 13],[vI 0],[vI 14],[vI 15]]) true)<|zC (Mr [11,12,13,0,14,15] (ar x 12 3) (gQ R)) ?_;exact fN R (by unfold ca gl;simp[a,b,c,d,e,f,h,i,k])
 refine zW _ (ak (ba _ _)) ?_;refine dx (ar x 0 7) 35 (λg=>?_) (λg=>?_)
 .refine zV (.Y 1 ([[vI 16],[vI 17],[vI 18]]) true)<|zC (Mr [16,17,18] (ar x 12 3) (gQ R)) ?_;exact fN R (by unfold ca gl;simp[a,b,c,d,e,f,h,i,k,g])
 refine zW _ (ak (ba _ _)) ?_;refine dx (ar x 0 7) 19 (λj=>?_) (λj=>?_)
 .refine zC (z6 _ _ (gQ R) (gQ R)) ?_;exact fN R (by unfold ca gl;simp[a,b,c,d,e,f,h,i,k,g,j])
 refine zW _ (ak (ba _ _)) ?_;refine dx (ar x 0 7) 51 (λl=>?_) (λl=>?_)
 .refine zC (z7 _ _ (gQ R) (gQ R)) ?_;exact fN R (by unfold ca gl;simp[a,b,c,d,e,f,h,i,k,g,j,l])
 exact fN R (by unfold ca gl;simp[a,b,c,d,e,f,h,i,k,g,j,l])
def g4(x L:Nat):Nat:=
 if L=73 then cv (ar x 20 12) 12 else if L=83 then cv (ar x 7 5+32*ar x 25 7) 12
 else if L=66 then cv (2*ar x 8 4+32*ar x 25 6+2048*ar x 7 1+4096*ar x 31 1) 13 else if L=85 then 4096*ar x 12 20
 else if L=74 then cv (2*ar x 21 10+2048*ar x 20 1+4096*ar x 12 8+1048576*ar x 31 1) 21 else if L=84 then ar x 20 5 else 0
def C4(a:Int):b2 a<=255:=by unfold b2;(repeat' split)<;>decide
def lf(a:Int):(cW a,b2 a)∈[(0,0),(6,85),(7,74),(2,73),(5,66),(4,83),(3,84),(1,82),(8,87)]:=by
 unfold cW b2;(repeat' split)<;>first|decide|(exfalso;omega)
def xo(a:Int){p:Nat->Nat->Prop}(b:p 0 0)(i:p 6 85)(j:p 7 74)(d:p 2 73)(g:p 5 66)(f:p 4 83)(e:p 3 84)(c:p 1 82)(k:p 8 87):p (cW a) (b2 a):=by
 have h:=lf a;simp only[eu,Prod.mk.injEq,List.not_mem_nil,or_false]at h;rcases h with h|h|h|h|h|h|h|h|h<;>rw[h.1,h.2]<;>assumption
def z8(x:Nat)(a:Int):g4 x (b2 a)=EG (cW a) x:=by
 rw[zw x _ (sB a)];exact xo a (p:=λf L=>g4 x L=p4 x f) R R R R R R R R R
def E0(x L:Nat)(a:x<=4294967295)(z:L<=255):bI C0 59 [vU x,.v (.int .u8 (L:Int))] (.v (.int .u32 ((g4 x L:Nat):Int))):=by
 refine bc func59 R ?_;refine zC (hW x 31 31 a dT dT) ?_;refine zW _ (ak (ba _ _)) ?_;refine dx L 73 (λb=>?_) (λb=>?_)
 .refine aW R (hW x 20 31 a dT dT)<|zC (Pm (ar x 20 12) 12 (aL ((i7 x 20 12 4095 R)) dT) dT dT) ?_;exact fN R (by unfold g4;simp[b])
 refine zW _ (ak (ba _ _)) ?_;refine dx L 83 (λc=>?_) (λc=>?_)
 .refine zC (hW x 7 11 a dT dT)<|aW R (hW x 25 31 a dT dT) ?_;have o:32*(ar x 25 7)<=4064:=cJ (aC 32) (i7 x 25 7 127 R);refine rW _ R (ap (nJ o R)) ?_;have q:(ar x 7 5)+(32*(ar x 25 7))<=4095:=aD (i7 x 7 5 31 R) o;refine rW _ R (ap (nJ q R))<|zC (Pm ((ar x 7 5)+(32*(ar x 25 7))) 12 (aL (q) dT) dT dT) ?_;exact fN R (by unfold g4;simp[b,c])
 refine zW _ (ak (ba _ _)) ?_;refine dx L 66 (λd=>?_) (λd=>?_)
 .refine aW R (hW x 8 11 a dT dT) ?_;have r:2*(ar x 8 4)<=30:=cJ (aC 2) (i7 x 8 4 15 R);refine zW _ (ap (nJ r R))<|aW R (hW x 25 30 a dT dT) ?_;have s:32*(ar x 25 6)<=2016:=cJ (aC 32) (i7 x 25 6 63 R);refine rW _ R (ap (nJ s R)) ?_;have t:(2*(ar x 8 4))+(32*(ar x 25 6))<=2046:=aD r s;refine zW _ (ap (nJ t R))<|aW R (hW x 7 7 a dT dT) ?_;have u:2048*(ar x 7 1)<=2048:=cJ (aC 2048) (i7 x 7 1 1 R);refine rW _ R (ap (nJ u R)) ?_;have v:((2*(ar x 8 4))+(32*(ar x 25 6)))+(2048*(ar x 7 1))<=4094:=aD t u;refine zW _ (ap (nJ v R)) ?_;have w:4096*(ar x 31 1)<=4096:=cJ (aC 4096) (i7 x 31 1 1 R);refine rW _ R (ap (nJ w R)) ?_;have y:(((2*(ar x 8 4))+(32*(ar x 25 6)))+(2048*(ar x 7 1)))+(4096*(ar x 31 1))<=8190:=aD v w;refine rW _ R (ap (nJ y R))<|zC (Pm ((((2*(ar x 8 4))+(32*(ar x 25 6)))+(2048*(ar x 7 1)))+(4096*(ar x 31 1))) 13 (aL (y) dT) dT dT) ?_;exact fN R (by unfold g4;simp[b,c,d])
 refine zW _ (ak (ba _ _)) ?_;refine dx L 85 (λe=>?_) (λe=>?_)
 .refine aW R (hW x 12 31 a dT dT) ?_;have p:4096*(ar x 12 20)<=4294963200:=cJ (aC 4096) (i7 x 12 20 1048575 R);refine zW _ (ap (nJ p R)) ?_;exact fN R (by unfold g4;simp[b,c,d,e])
 refine zW _ (ak (ba _ _)) ?_;refine dx L 74 (λf=>?_) (λf=>?_)
 .refine aW R (hW x 21 30 a dT dT) ?_;have g:2*(ar x 21 10)<=2046:=cJ (aC 2) (i7 x 21 10 1023 R);refine zW _ (ap (nJ g R))<|aW R (hW x 20 20 a dT dT) ?_;have h:2048*(ar x 20 1)<=2048:=cJ (aC 2048) (i7 x 20 1 1 R);refine rW _ R (ap (nJ h R)) ?_;have i:(2*(ar x 21 10))+(2048*(ar x 20 1))<=4094:=aD g h;refine zW _ (ap (nJ i R))<|aW R (hW x 12 19 a dT dT) ?_;have j:4096*(ar x 12 8)<=1044480:=cJ (aC 4096) (i7 x 12 8 255 R);refine rW _ R (ap (nJ j R)) ?_;have k:((2*(ar x 21 10))+(2048*(ar x 20 1)))+(4096*(ar x 12 8))<=1048574:=aD i j;refine zW _ (ap (nJ k R)) ?_;have l:1048576*(ar x 31 1)<=1048576:=cJ (aC 1048576) (i7 x 31 1 1 R);refine rW _ R (ap (nJ l R)) ?_;have m:(((2*(ar x 21 10))+(2048*(ar x 20 1)))+(4096*(ar x 12 8)))+(1048576*(ar x 31 1))<=2097150:=aD k l;refine rW _ R (ap (nJ m R))<|zC (Pm ((((2*(ar x 21 10))+(2048*(ar x 20 1)))+(4096*(ar x 12 8)))+(1048576*(ar x 31 1))) 21 (aL (m) dT) dT dT) ?_;exact fN R (by unfold g4;simp[b,c,d,e,f])
 refine zW _ (ak (ba _ _)) ?_;refine dx L 84 (λn=>?_) (λn=>?_)
 .refine zC (hW x 20 24 a dT dT) ?_;exact fN R (by unfold g4;simp[b,c,d,e,f,n])
 exact fN R (by unfold g4;simp[b,c,d,e,f,n])
def Pl(x:Nat)(k:Nat):SI:=
 if ca x=0 then MG else⟨k,if b2 k=83\/b2 k=66\/b2 k=87 then 0 else(ar x 7 5:Nat),if b2 k=85\/b2 k=74\/b2 k=87 then 0 else(ar x 15 5:Nat),
  if b2 k=82\/b2 k=83\/b2 k=66 then(ar x 20 5:Nat)else 0,g4 x (b2 k)⟩
def Yu(x:Nat)(a:x<4294967296):Pl x (ca x)=be x:=by
 unfold Pl be;rw[<-Wi x a];by_cases h:dq x=0
 .rw[aa h,aa h]
 rw[dZ h,dZ h,z8];unfold xW;have b:=Fp x h;have f1:=AY (dq x:Int) ⟨oT,oT⟩;generalize EG _ _=z;revert f1;exact xo (dq x) (p:=λf L=>1<=f->SI.mk (dq x) (if L=83\/L=66\/L=87 then 0 else(ar x 7 5:Nat)) (if L=85\/L=74\/L=87 then 0 else(ar x 15 5:Nat)) (if L=82\/L=83\/L=66 then(ar x 20 5:Nat)else 0) z=⟨dq x,if yW f then(ar x 7 5:Nat)else 0,if uS f then(ar x 15 5:Nat)else 0,if vS f then(ar x 20 5:Nat)else 0,z⟩) (λh=>absurd h dT) (λ_=>rfl) (λ_=>rfl) (λ_=>rfl) (λ_=>rfl) (λ_=>rfl) (λ_=>rfl) (λ_=>rfl) (λ_=>rfl)
def z9(x:Nat)(b:x<=4294967295):bI C0 33 [vU x] (.F [g9 (Pl x (ca x)),.v (.int .i64 ((if ca x=0 then 20 else 0:Nat):Int))]):=by
 refine bc func33 R ?_;refine zC (ED x b) ?_;refine zW _ (ak (ba _ _)) ?_;refine dx (ca x) 0 (λa=>?_) (λa=>?_)
 .refine zV (.agg [vI 0,vI 0,vI 0,vI 0,.v (.int .u32 0)]) ?_;exact fT R (by rw[show Pl x (ca x)=⟨0,0,0,0,0⟩from by unfold Pl;rw[aa a];rfl,aa a];rfl)
 refine zC (Vs _)<|aW R (E0 x _ b (C4 _))<|zV (.agg [vN (ca x),vI 0,vI 0,vI 0,vU (g4 x (b2 (ca x)))]) ?_;refine zW _ (ak (ba _ _)) ?_;refine dx (b2 (ca x)) 87 (λc=>?_) (λc=>?_)
 .exact fT R (by rw[show Pl x (ca x)=⟨((ca x:Nat):Int),0,0,0,(g4 x (b2 (ca x)))⟩from by unfold Pl;rw[dZ a];congr 1<;>split<;>first|rfl|(exfalso;omega),dZ a];rfl)
 refine zW _ (ak (db _ _))<|aw (x:=vB ((b2 (ca x)) != 66)) R id (ak (db _ _))<|zN R (λh=>h) ?_;refine ci (¬(b2 (ca x))=83/\ ¬(b2 (ca x))=66) (uA _ _ jh jh) (λd=>?_) (λd=>?_)
 all_goals
  first|(refine aW rfl (hW x 7 11 b dT dT) ?_;refine zW _ (ap (bH (i7 x 7 5 31 rfl) rfl)) ?_)|skip
  refine zW _ (ak (db _ _))<|aw (x:=vB ((b2 (ca x)) != 74)) R id (ak (db _ _))<|zN R (λh=>h) ?_;refine ci (¬(b2 (ca x))=85/\ ¬(b2 (ca x))=74) (uA _ _ jh jh) (λe=>?_) (λe=>?_)
  all_goals
   first|(refine aW rfl (hW x 15 19 b dT dT) ?_;refine zW _ (ap (bH (i7 x 15 5 31 rfl) rfl)) ?_)|skip
   refine zW _ (ak (ba _ _))<|aw (x:=vB ((b2 (ca x))==83)) R id (ak (ba _ _))<|zN R (by simp) ?_;refine aw (x:=vB ((b2 (ca x))==66)) R id (ak (ba _ _))<|zN R (by simp) ?_;refine ci (((b2 (ca x))=82\/(b2 (ca x))=83)\/(b2 (ca x))=66) (wP _ _ (wP _ _ bT bT) bT) (λf=>?_) (λf=>?_)
   .refine aW R (hW x 20 24 b dT dT)<|zW _ (ap (bH (i7 x 20 5 31 R) R)) ?_
    first|(exact fT rfl (by rw[show Pl x (ca x)=⟨((ca x:Nat):Int),((ar x 7 5:Nat):Int),((ar x 15 5:Nat):Int),((ar x 20 5:Nat):Int),(g4 x (b2 (ca x)))⟩from by unfold Pl;rw[dZ a];congr 1<;>split<;>first|rfl|(exfalso;omega),dZ a];rfl))|(exact fT rfl (by rw[show Pl x (ca x)=⟨((ca x:Nat):Int),0,((ar x 15 5:Nat):Int),((ar x 20 5:Nat):Int),(g4 x (b2 (ca x)))⟩from by unfold Pl;rw[dZ a];congr 1<;>split<;>first|rfl|(exfalso;omega),dZ a];rfl))|(exact fT rfl (by rw[show Pl x (ca x)=⟨((ca x:Nat):Int),((ar x 7 5:Nat):Int),0,((ar x 20 5:Nat):Int),(g4 x (b2 (ca x)))⟩from by unfold Pl;rw[dZ a];congr 1<;>split<;>first|rfl|(exfalso;omega),dZ a];rfl))|(exact fT rfl (by rw[show Pl x (ca x)=⟨((ca x:Nat):Int),0,0,((ar x 20 5:Nat):Int),(g4 x (b2 (ca x)))⟩from by unfold Pl;rw[dZ a];congr 1<;>split<;>first|rfl|(exfalso;omega),dZ a];rfl))
   first|(exact fT rfl (by rw[show Pl x (ca x)=⟨((ca x:Nat):Int),((ar x 7 5:Nat):Int),((ar x 15 5:Nat):Int),0,(g4 x (b2 (ca x)))⟩from by unfold Pl;rw[dZ a];congr 1<;>split<;>first|rfl|(exfalso;omega),dZ a];rfl))|(exact fT rfl (by rw[show Pl x (ca x)=⟨((ca x:Nat):Int),0,((ar x 15 5:Nat):Int),0,(g4 x (b2 (ca x)))⟩from by unfold Pl;rw[dZ a];congr 1<;>split<;>first|rfl|(exfalso;omega),dZ a];rfl))|(exact fT rfl (by rw[show Pl x (ca x)=⟨((ca x:Nat):Int),((ar x 7 5:Nat):Int),0,0,(g4 x (b2 (ca x)))⟩from by unfold Pl;rw[dZ a];congr 1<;>split<;>first|rfl|(exfalso;omega),dZ a];rfl))|(exact fT rfl (by rw[show Pl x (ca x)=⟨((ca x:Nat):Int),0,0,0,(g4 x (b2 (ca x)))⟩from by unfold Pl;rw[dZ a];congr 1<;>split<;>first|rfl|(exfalso;omega),dZ a];rfl))
def E1(x:Nat)(a:x<4294967296):bI C0 33 [.v (.int .u32 (x:Int))] (.F [g9 (be x),.v (.int .i64 ((g7 x:Nat):Int))]):=by
 have h:=z9 x (aI a);rw[Yu x a]at h;unfold g7;rw[Wi x a];exact h
def Yr(s:ByteArray)(b:s.size<=4)(k:Nat)(a:k<=s.size):dl (s.data.toList.drop (s.size-k)) k<=4294967295:=by
 have h:=yK (s.data.toList.drop (s.size-k)) k;have:256 ^ k<=256 ^ 4:=bU dT ad;omega
def ug(s:ByteArray)(a:s.size<=4):dl s.data.toList s.size<=4294967295:=by
 have h:=Yr s a s.size (aC _)
 rwa [eK,bS]at h
def t'(s:ByteArray):s.data.toList.length=s.size:=cV
def Ys(s:ByteArray)(c:s.size<=4)(k:Nat)(a:k<s.size):(256*dl (s.data.toList.drop (s.size-k)) k%4294967296+(s.data.toList.getD (((s.size:Int)-1-(k:Int))).toNat 0).toNat)%4294967296=dl (s.data.toList.drop (s.size-(k+1))) (k+1):=by
 have h:=SL s.data.toList k (by rw[t'];exact a);rw[t']at h;have b:=Yr s c (k+1) a;rw[(oT:(((s.size:Int)-1-(k:Int))).toNat=s.size-1-k),h];rw[h]at b;omega
def T6(b:UInt8):IntKind.wrap .u32 ((b.toNat:Nat):Int)=((b.toNat:Nat):Int):=by
 have:=UInt8.toNat_lt b;simp only[IntKind.wrap,IntKind.signed,IntKind.bits];simp;omega
def y5(n:Nat):IntKind.wrap .u32 (n:Int)=((n%4294967296:Nat):Int):=by
 simp only[IntKind.wrap,IntKind.signed,IntKind.bits];simp
def sr(s:ByteArray)(c:s.size<=4):bI C0 41 [.v (.string s)] (.F [.v (.int .u32 ((dl s.data.toList s.size:Nat):Int)),.v (.int .i64 0)]):=by
 refine bc func41 R ?_;refine rV (vN s.size) R<|zW (vB (decide (s.size>4))) (ak (fq _ _)) ?_;refine ci (s.size>4) qW (λa=>by omega) (λa=>?_);refine rV (vN s.size) R<|zW (vI ((s.size:Int)-1)) (gk (dd ad ad))<|dk (κ:=Nat) (λk=>⟨a6 [(0,.v (.string s)),(4,vU (dl (s.data.toList.drop (s.size-k)) k)),(5,vI ((s.size:Int)-1-(k:Int)))],aq [],10⟩) (λk=>k<=s.size) (λk=>s.size-k) 0 (λs=>s) (au (λs=>s) ⟨⟨R,R⟩,⟨R,R⟩,⟨am (λn:Int=>AV.v (.int .i64 n)) (by simp),R⟩,tr⟩ tr R) (aE _) ?_;intro k f;refine zV (vB (decide (((s.size:Int)-1-(k:Int))>=0))) ?_;refine ci (((s.size:Int)-1-(k:Int))>=0) qW (λb=>?_) (λb=>?_)
 .skip
  have d:(256*(dl (s.data.toList.drop (s.size-k)) k))%4294967296<=4294967295:=aI (aQ _ dT);refine zV (vU ((256*(dl (s.data.toList.drop (s.size-k)) k))%4294967296))<|nW (.v (.int .u8 (((s.data.toList.getD ((s.size:Int)-1-(k:Int)).toNat 0).toNat:Nat):Int))) R R (⟨oT,oT⟩)<|rW (vU ((s.data.toList.getD ((s.size:Int)-1-(k:Int)).toNat 0).toNat)) R (gk (T6 _))<|zW (vU (dl (s.data.toList.drop (s.size-(k+1))) (k+1))) (ap (by rw[<-Ys s c k ad];exact y5 _))<|zW (vI ((s.size:Int)-1-((k+1:Nat):Int))) (gk (by rw[dd ad ad];omega)) ?_;refine⟨k+1,λs=>s,au (λs=>s) wT tr R,ad,ad⟩
 have e:k=s.size:=oT;subst e;exact fT R (by rw[eK,bS];rfl)
def Su(x k:Nat)(a:x<=4294967295)(h:x/2 ^ k>0):hF (x/2 ^ k)=1+hF (x/2 ^ (k+1)):=by
 have:x/2 ^ k<=x:=cO _ _;unfold hF;rw[Lib.bitLen_half _ ad ad,Nat.div_div_eq_div_mul, <-Nat.pow_succ]
def Sv(x k:Nat)(b:x<=4294967295)(h:x/2 ^ k>0):k<32:=by
 refine Nat.lt_of_not_le λa=>?_;have:(2:Nat) ^ 32<=2 ^ k:=bU dT a;rw[Nat.div_eq_of_lt ad]at h;omega
def zp:hF 0=0:=dT
def tc(x:Nat)(b:x<=4294967295):bI C0 69 [vU x] (.v (.int .i64 ((hF x:Nat):Int))):=by
 refine bc func69 R ?_;refine dk (κ:=Nat) (λk=>⟨a6 [(0,vU (x/2 ^ k)),(3,vN k)],aq [],2⟩) (λk=>k<=32/\hF x=k+hF (x/2 ^ k)) (λk=>33-k) 0 (λs=>s) (au (λs=>s) ⟨⟨py (by simp),R⟩,⟨R,R⟩,tr⟩ tr R) (⟨dT,by simp⟩) ?_;intro k c;refine zW (vB (decide ((x/2 ^ k)>0))) (ak (fq _ _)) ?_;refine ci ((x/2 ^ k)>0) qW (λa=>?_) (λa=>?_)
 .skip
  have d:k+1<=33:=aD c.1 (aC 1);refine zW (vN (k+1)) (ap (bH d R))<|zM (vU (x/2 ^ (k+1))) (ij (by rw[Nat.pow_succ, <-Nat.div_div_eq_div_mul];exact nJ (aL (cO _ _) (aL (cO _ _) b)) R)) dT ?_;refine⟨k+1,λs=>s,au (λs=>s) wT tr R,⟨Sv x k b a,by rw[c.2,Su x k b a];omega⟩,(oH (Sv x k b a))⟩
 exact fN R (by rw[c.2,show x/2 ^ k=0 from Nat.eq_zero_of_not_pos a,zp];rfl)
def zq(m:ByteArray)(a:Nat)(b:ByteArray)(g:a+b.size<=m.size)(t:m.size<=256)(f:a<=4294967295)(q:b.size<=4):bI C0 40 [.v (.string m),vU a,.v (.string b)] (.v (.string (DD m a b))):=by
 refine bc func40 R ?_;refine zV (.Y 1 ([]) true) ?_;refine jR (κ:=Nat) (λk=>match k with|0=>⟨a6 [(0,.v (.string m)),(1,vU a),(2,.v (.string b)),(7,.Y 1 ([]) true),(8,vN 0)],aq [],4⟩|k+1=>⟨a6 [(0,.v (.string m)),(1,vU a),(2,.v (.string b)),(7,.X 0 0 (k+1) false),(8,vN (k+1))],aq [(0,.arr ((c1 (uU m b a) (k+1)).map Sx) 1)],4⟩) (λk=>k<=m.size) (λk=>m.size-k) 0 (λs=>s) (au (λs=>s) wT tr R) (aE _) ?_;intro k r;rcases k with _|k
 .have c:0<=1000000:=dT;refine qS 0 R<|rV (vN m.size) R<|zW _ (ak (bl _ _)) ?_;refine ci (0<m.size) qW (λo=>?_) (λo=>?_)
  .refine rW _ R (ap (bH f R))<|zW _ (gk (dd ad ad))<|zV (vB (decide ((((0:Nat):Int)-(a:Int))>=0))) ?_;refine aw (x:=vN b.size) R id R<|aw (x:=vB (decide ((((0:Nat):Int)-(a:Int))<((b.size:Nat):Int)))) R b9 R<|zN R (λh=>h) ?_;refine ci ((((0:Nat):Int)-(a:Int))>=0/\(((0:Nat):Int)-(a:Int))<((b.size:Nat):Int)) (uA _ _ qW qW) (λd=>?_) (λd=>?_)
   .refine nW (.v (.int .u8 (((b.data.toList.getD (((0:Nat):Int)-(a:Int)).toNat 0).toNat:Nat):Int))) R R (⟨oT,oT⟩)<|rV (.Y 1 ([[.v (.int .u8 (((b.data.toList.getD (((0:Nat):Int)-(a:Int)).toNat 0).toNat:Nat):Int))]]) true) R<|zF (x:=.X 26 0 1 false) (h':=an _ 26 (some (.arr (([])++([[.v (.int .u8 (((b.data.toList.getD (((0:Nat):Int)-(a:Int)).toNat 0).toNat:Nat):Int))]])) 1))) (rfl) (⟨by exact aJ R,by exact aJ R,tr,tr⟩) ?_;have i:0+1<=1000001:=aD c (aC 1);refine zW _ (ap (bH i R)) ?_;refine⟨0+1,λs=>match s with|0=>26|s=>s,au (λs=>match s with|0=>26|s=>s) wT ⟨⟨R,am (λz=>some (a'.arr z 1)) (Jp (g:=uU m b a) (row:=Sx) (x:=b.data.toList.getD (((0:Nat):Int)-(a:Int)).toNat 0) (by unfold uU;rw[aa d])),R⟩,tr⟩ R,ad,ad⟩
   refine nW (.v (.int .u8 (((m.data.toList.getD (((0:Nat):Int)).toNat 0).toNat:Nat):Int))) R R (⟨oT,oT⟩)<|rV (.Y 1 ([[.v (.int .u8 (((m.data.toList.getD (((0:Nat):Int)).toNat 0).toNat:Nat):Int))]]) true) R<|zF (x:=.X 26 0 1 false) (h':=an _ 26 (some (.arr (([])++([[.v (.int .u8 (((m.data.toList.getD (((0:Nat):Int)).toNat 0).toNat:Nat):Int))]])) 1))) (rfl) (⟨by exact aJ R,by exact aJ R,tr,tr⟩) ?_;have j:0+1<=1000001:=aD c (aC 1);refine zW _ (ap (bH j R)) ?_;refine⟨0+1,λs=>match s with|0=>26|s=>s,au (λs=>match s with|0=>26|s=>s) wT ⟨⟨R,am (λz=>some (a'.arr z 1)) (Jp (g:=uU m b a) (row:=Sx) (x:=m.data.toList.getD ((0:Nat):Int).toNat 0) (by unfold uU;rw[dZ d];rfl)),R⟩,tr⟩ R,ad,ad⟩
  refine qX 0 R<|SV (([]:List UInt8)) (d:=42) R R R (trivial) (rfl)<|cg 0 R ?_;exact fS R (by rw[<-Ld m b a g];rw[(oT:m.size=0)];rfl)
 have c:k+1<=1000000:=oT;refine qS 0 R<|rV (vN m.size) R<|zW _ (ak (bl _ _)) ?_;refine ci ((k+1)<m.size) qW (λp=>?_) (λp=>?_)
 .refine rW _ R (ap (bH f R))<|zW _ (gk (dd ad ad))<|zV (vB (decide (((((k+1):Nat):Int)-(a:Int))>=0))) ?_;refine aw (x:=vN b.size) R id R<|aw (x:=vB (decide (((((k+1):Nat):Int)-(a:Int))<((b.size:Nat):Int)))) R b9 R<|zN R (λh=>h) ?_;refine ci (((((k+1):Nat):Int)-(a:Int))>=0/\((((k+1):Nat):Int)-(a:Int))<((b.size:Nat):Int)) (uA _ _ qW qW) (λe=>?_) (λe=>?_)
  .refine nW (.v (.int .u8 (((b.data.toList.getD ((((k+1):Nat):Int)-(a:Int)).toNat 0).toNat:Nat):Int))) R R (⟨oT,oT⟩)<|rV (.Y 1 ([[.v (.int .u8 (((b.data.toList.getD ((((k+1):Nat):Int)-(a:Int)).toNat 0).toNat:Nat):Int))]]) true) R ?_;refine zF (x:=.X 26 0 ((List.take (k+1) (List.drop 0 ((c1 (uU m b a) (k+1)).map Sx))).length+([[.v (.int .u8 (((b.data.toList.getD ((((k+1):Nat):Int)-(a:Int)).toNat 0).toNat:Nat):Int))]]:List (List AV)).length) false) (h':=an (an _ 0 none) 26 (some (.arr (List.take (k+1) (List.drop 0 ((c1 (uU m b a) (k+1)).map Sx))++[[.v (.int .u8 (((b.data.toList.getD ((((k+1):Nat):Int)-(a:Int)).toNat 0).toNat:Nat):Int))]]) 1))) (rfl) (⟨gC ad,gF,tr⟩) ?_;have l:(k+1)+1<=1000001:=aD c (aC 1);refine zW _ (ap (bH l R)) ?_;refine⟨(k+1)+1,λs=>match s with|0=>26|s=>s,au (λs=>match s with|0=>26|s=>s) ⟨⟨R,R⟩,⟨R,R⟩,⟨R,R⟩,⟨am (λz=>AV.X 26 0 z false) gL,R⟩,⟨R,R⟩,tr⟩ ⟨⟨R,am (λz=>some (a'.arr z 1)) (Gh (g:=uU m b a) (row:=Sx) (x:=b.data.toList.getD ((((k+1):Nat):Int)-(a:Int)).toNat 0) (by unfold uU;rw[aa e])),R⟩,tr⟩ R,ad,ad⟩
  refine nW (.v (.int .u8 (((m.data.toList.getD ((((k+1):Nat):Int)).toNat 0).toNat:Nat):Int))) R R (⟨oT,oT⟩)<|rV (.Y 1 ([[.v (.int .u8 (((m.data.toList.getD ((((k+1):Nat):Int)).toNat 0).toNat:Nat):Int))]]) true) R ?_;refine zF (x:=.X 26 0 ((List.take (k+1) (List.drop 0 ((c1 (uU m b a) (k+1)).map Sx))).length+([[.v (.int .u8 (((m.data.toList.getD ((((k+1):Nat):Int)).toNat 0).toNat:Nat):Int))]]:List (List AV)).length) false) (h':=an (an _ 0 none) 26 (some (.arr (List.take (k+1) (List.drop 0 ((c1 (uU m b a) (k+1)).map Sx))++[[.v (.int .u8 (((m.data.toList.getD ((((k+1):Nat):Int)).toNat 0).toNat:Nat):Int))]]) 1))) (rfl) (⟨gC ad,gF,tr⟩) ?_;have n:(k+1)+1<=1000001:=aD c (aC 1);refine zW _ (ap (bH n R)) ?_;refine⟨(k+1)+1,λs=>match s with|0=>26|s=>s,au (λs=>match s with|0=>26|s=>s) ⟨⟨R,R⟩,⟨R,R⟩,⟨R,R⟩,⟨am (λz=>AV.X 26 0 z false) gL,R⟩,⟨R,R⟩,tr⟩ ⟨⟨R,am (λz=>some (a'.arr z 1)) (Gh (g:=uU m b a) (row:=Sx) (x:=m.data.toList.getD (((k+1):Nat):Int).toNat 0) (by unfold uU;rw[dZ e];rfl)),R⟩,tr⟩ R,ad,ad⟩
 refine qX 0 R<|SV (c1 (uU m b a) (k+1)) (d:=42) R R R (Nat.le_of_eq gF) (by rw[gT];exact lN _)<|cg 0 R ?_;exact fS R (by rw[<-Ld m b a g];rw[(oT:m.size=k+1)])
def KZ(n:Nat):gU (List.take n (List.drop 0 (List.replicate n [AV.v (.int .u8 0)])))=some (List.replicate n (0:UInt8)):=by
 rw[bS,aN (by simp)];have:List.replicate n [AV.v (.int .u8 0)]=(List.replicate n (0:UInt8)).map λb=>[.v (.int .u8 (b.toNat:Int))]:=by simp
 rw[this];exact lN _
def v2(m:ByteArray)(j:Nat)(b:m.size<=256)(a:j<=4):((m.size+(⟨(List.replicate (16*2 ^ j-m.size) (0:UInt8)).toArray⟩:ByteArray).size:Nat):Int)<=IntKind.i64.max:=by
 have c:=bU (n:=2) dT a;have e:(⟨(List.replicate (16*2 ^ j-m.size) (0:UInt8)).toArray⟩:ByteArray).size=16*2 ^ j-m.size:=by
  show(List.replicate (16*2 ^ j-m.size) (0:UInt8)).toArray.size=_;simp
 rw[e];simp only[IntKind.max,IntKind.signed,IntKind.bits];simp;omega
def Mq(m:ByteArray):m.extract 0 m.size=m:=by simp
def NY(x:ByteArray)(n:Nat):x++(⟨(List.replicate n (0:UInt8)).toArray⟩:ByteArray)=(⟨(x.data.toList++List.replicate n 0).toArray⟩:ByteArray):=by
 refine ByteArray.ext ?_;rw[ByteArray.data_append];simp
def Vo(m:ByteArray)(j:Nat)(d: ¬m.size>256)(c: ¬ 16*2 ^ j<m.size)(b:j<=4)(a:j=0\/16*2 ^ (j-1)<m.size):m++(⟨(List.replicate (16*2 ^ j-m.size) (0:UInt8)).toArray⟩:ByteArray)=jB m:=by
 rw[NY];unfold jB;rw[kD ad,Mq,NE b ad a]
def Sw(m:ByteArray)(j:Nat)(d:m.size>256)(b: ¬ 16*2 ^ j<(m.extract 0 256).size)(a:j<=4)(c:j=0\/16*2 ^ (j-1)<(m.extract 0 256).size):m.extract 0 256++(⟨(List.replicate (16*2 ^ j-(m.extract 0 256).size) (0:UInt8)).toArray⟩:ByteArray)=jB m:=by
 have e:(m.extract 0 256).size=256:=by rw[dA];omega
 rw[NY];unfold jB;rw[Nat.min_eq_right ad, <-NE (n:=256) a ad ad,e]
def Ej{n j:Nat}(b:n<=256)(a:j<=4)(h:16*2 ^ j<n):j+1<=4:=IQ (n:=n) a ad
def pw(m:ByteArray):bI C0 8 [.v (.string m)] (.v (.string (jB m))):=by
 refine bc func8 R ?_;refine rV (vN m.size) R<|zW (vB (decide (m.size>256))) (ak (fq _ _)) ?_;refine ci (m.size>256) qW (λf=>?_) (λf=>?_)
 .refine zM (.v (.string (m.extract 0 256))) R (⟨dT,by show(0:Int)<=256;decide,by show(256:Int)<=((m.size:Nat):Int);omega⟩) ?_;have b:(m.extract 0 256).size<=256:=by rw[dA];omega
  refine dk (κ:=Nat) (λj=>⟨a6 [(0,.v (.string (m.extract 0 256))),(3,vN (16*2 ^ j))],aq [],8⟩) (λj=>j<=4/\(j=0\/16*2 ^ (j-1)<(m.extract 0 256).size)) (λj=>4-j) 0 (λs=>s) (au (λs=>s) wT tr R) (⟨dT,.inl R⟩) ?_;intro j a;refine rV (vN ((m.extract 0 256).size)) R<|zW (vB (decide ((16*2 ^ j)<((m.extract 0 256).size)))) (ak (bl _ _)) ?_;refine ci ((16*2 ^ j)<((m.extract 0 256).size)) qW (λd=>?_) (λd=>?_)
  .refine zW (vN (16*2 ^ (j+1))) (by show b1.ok (.v (.int .i64 (IntKind.wrap .i64 (2*((16*2 ^ j:Nat):Int)))))=_;have c:=bU (n:=2) dT a.1;rw[dd ad ad];congr 3;rw[Nat.pow_succ];omega) ?_;refine⟨j+1,λs=>s,au (λs=>s) wT tr R,⟨Ej b a.1 d,.inr (sU d)⟩,(oH (Ej b a.1 d))⟩
  refine rV (vN ((m.extract 0 256).size)) R<|rW (vN (16*2 ^ j-(m.extract 0 256).size)) R (gk (by have c:=bU (n:=2) dT a.1;rw[dd ad ad];omega)) ?_;refine zF (x:=.X 16 0 (16*2 ^ j-(m.extract 0 256).size) false) (h':=an _ 16 (some (.arr (List.replicate (16*2 ^ j-(m.extract 0 256).size) [AV.v (.int .u8 0)]) 1))) (rfl) (by have c:=bU (n:=2) dT a.1;refine⟨oT,oT,?_⟩;simp only[jH];omega) ?_;refine SV (List.replicate (16*2 ^ j-(m.extract 0 256).size) (0:UInt8)) (d:=23) R R R (by show 0+(16*2 ^ j-(m.extract 0 256).size)<=(List.replicate (16*2 ^ j-(m.extract 0 256).size) [AV.v (.int .u8 0)]).length;rw[cM];omega) (KZ _)<|zM (.v (.string (jB m))) (am (λx=>b1.Z9 _ (.v (.string x))) (Sw m j ad ad a.1 a.2)) (v2 (m.extract 0 256) j b a.1) ?_;exact fT R R
 skip
 have b:m.size<=256:=oT;refine dk (κ:=Nat) (λj=>⟨a6 [(0,.v (.string m)),(3,vN (16*2 ^ j))],aq [],5⟩) (λj=>j<=4/\(j=0\/16*2 ^ (j-1)<m.size)) (λj=>4-j) 0 (λs=>s) (au (λs=>s) wT tr R) (⟨dT,.inl R⟩) ?_;intro j a;refine rV (vN m.size) R<|zW (vB (decide ((16*2 ^ j)<m.size))) (ak (bl _ _)) ?_;refine ci ((16*2 ^ j)<m.size) qW (λe=>?_) (λe=>?_)
 .refine zW (vN (16*2 ^ (j+1))) (by show b1.ok (.v (.int .i64 (IntKind.wrap .i64 (2*((16*2 ^ j:Nat):Int)))))=_;have c:=bU (n:=2) dT a.1;rw[dd ad ad];congr 3;rw[Nat.pow_succ];omega) ?_;refine⟨j+1,λs=>s,au (λs=>s) wT tr R,⟨Ej b a.1 e,.inr (sU e)⟩,(oH (Ej b a.1 e))⟩
 refine rV (vN m.size) R<|rW (vN (16*2 ^ j-m.size)) R (gk (by have c:=bU (n:=2) dT a.1;rw[dd ad ad];omega)) ?_;refine zF (x:=.X 13 0 (16*2 ^ j-m.size) false) (h':=an _ 13 (some (.arr (List.replicate (16*2 ^ j-m.size) [AV.v (.int .u8 0)]) 1))) (rfl) (by have c:=bU (n:=2) dT a.1;refine⟨oT,oT,?_⟩;simp only[jH];omega) ?_;refine SV (List.replicate (16*2 ^ j-m.size) (0:UInt8)) (d:=23) R R R (by show 0+(16*2 ^ j-m.size)<=(List.replicate (16*2 ^ j-m.size) [AV.v (.int .u8 0)]).length;rw[cM];omega) (KZ _)<|zM (.v (.string (jB m))) (am (λx=>b1.Z9 _ (.v (.string x))) (Vo m j ad ad a.1 a.2)) (v2 m j b a.1) ?_;exact fT R R
def zr(size a n:Nat)(g:size<=256)(b:a<=4294967295)(c:n<=4):bI C0 38 [vN size,vU a,vN n] (.v (.bool (kZ (size:Int) a (n:Int)))):=by
 refine bc func38 R ?_;refine zW _ (ak (db _ _))<|aw (x:=vB (n != 2)) R id (ak (db _ _))<|zN R (λh=>h) ?_;refine aw (x:=vB (n != 4)) R id (ak (db _ _))<|zN R (λh=>h) ?_;refine ci ((¬n=1/\ ¬n=2)/\ ¬n=4) (uA _ _ (uA _ _ jh jh) jh) (λf=>?_) (λf=>?_)
 .exact i6 R (by have d:n=0\/n=1\/n=2\/n=3\/n=4:=ad;rw[bB];rcases d with rfl|rfl|rfl|rfl|rfl<;>simp[c2,kZ]<;>omega)
 refine rW _ rfl (ap (nJ c rfl)) ?_;have i:a%n<=4294967295:=aL (gR _ _) b;refine nW (vU (a%n)) R R ad<|zW _ (ak (ba _ _))<|aw (x:=vB (decide (size>=0))) R id (ak (im _ _))<|zN R (λh=>h)<|gn (x:=.v (.int .u64 (a:Int))) R id (ap (nJ b R))<|aw (x:=.v (.int .u64 (n:Int))) R id (ap (nJ c R)) ?_;have e:a+n<=4294967299:=aD b c;refine gn (x:=.v (.int .u64 ((a+n:Nat):Int))) R b9 (ap (nJ e R))<|aw (x:=.v (.int .u64 (size:Int))) R id (ap (nJ g R))<|aw (x:=vB (decide ((a+n)<=size))) R b9 (ak (ju _ _))<|zN R (λh=>h) ?_;exact i6 R (by have d:n=0\/n=1\/n=2\/n=3\/n=4:=ad;rw[bB];rcases d with rfl|rfl|rfl|rfl|rfl<;>simp[c2,kZ]<;>omega)
def Vp{a:Int}{s:ByteArray}(h: ¬aj a=3\/ ¬s.size=bh a):hG a s=0:=by
 unfold hG;exact dZ (λe=>h.elim (λq=>q e.1) λq=>q e.2)
def Jo{a:Int}{s:ByteArray}(h: ¬(¬aj a=3\/ ¬s.size=bh a)):hG a s=(if a=11 then cv (dl s.data.toList s.size) 8 else if a=12 then cv (dl s.data.toList s.size) 16 else dl s.data.toList s.size):=by
 unfold hG;exact aa ⟨dw λq=>h (.inl q),dw λq=>h (.inr q)⟩
def z3(a:Int)(s:ByteArray):bI C0 42 [vI a,.v (.string s)] (.v (.int .u32 ((hG a s:Nat):Int))):=by
 refine bc func42 R ?_;refine aW R (SE a)<|zW _ (ak (db _ _))<|gn (x:=vN s.size) R id R<|jQ (args:=[vI a]) (x:=vN (bh a)) (g:= !((aj a) != 3)) R R R R (λh=>h) R R R (.inl R) R (λe=>tf a) ?_;refine aw (x:=vB (s.size != (bh a))) R b9 (ak (db _ _))<|zN R (by simp) ?_;refine ci (¬(aj a)=3\/ ¬s.size=(bh a)) (wP _ _ jh jh) (λb=>?_) (λb=>?_)
 .exact fI R (by rw[Vp b];rfl)
 refine zC (sr s (oH (lQ a)))<|ct a 11 (λc=>?_) (λc=>?_)
 .refine zC (Pm _ 8 (ug s (oH (lQ a))) dT dT) ?_;exact fI R (by rw[Jo b,aa c])
 refine ct a 12 (λd=>?_) (λd=>?_)
 .refine zC (Pm _ 16 (ug s (oH (lQ a))) dT dT) ?_;exact fI R (by rw[Jo b,dZ c,aa d])
 exact fI R (by rw[Jo b,dZ c,dZ d])
def z4(c:Int)(a b:Nat)(f:a<=4294967295)(g:b<=4294967295):bI C0 45 [vI c,vU a,vU b] (.v (.int .i64 ((e8 c a b:Nat):Int))):=by
 refine bc func45 R ?_;have d:cd c a<=4294967295:=aI (pT c a (bG f));have e:cd c b<=4294967295:=aI (pT c b (bG g));refine zV (vB (decide (c<42)))<|aw (x:=vB (decide (c>45))) R id R<|zN R (by simp) ?_;refine ci (c<42\/c>45) (wP _ _ qW qW) (λi=>?_) (λi=>?_)
 .exact fI R (by unfold e8;rw[aa ad];rfl)
 refine zC (Wg c a f)<|zC (Wg c b g) ?_;refine zW _ (ak (ba _ _))<|aw (x:=vB (decide ((cd c a)<(cd c b)))) R b9 (ak (bl _ _))<|zN R (by simp) ?_;refine ci (b=0\/(cd c a)<(cd c b)) (wP _ _ bT qW) (λj=>?_) (λj=>?_)
 .exact fI R (by unfold e8;rw[dZ ad,aa ad];rfl)
 refine rW _ R (ap (nJ d R))<|aW R (tc _ d) ?_;have h:3+(hF (cd c a))<=35:=aD (aC 3) (IM _ (bG d));refine zW _ (ap (bH h R))<|rW _ R (ap (nJ e R))<|aW R (tc _ e)<|zV (vI (IntKind.wrap .i64 (((3+(hF (cd c a)):Nat):Int)-((hF (cd c b):Nat):Int)))) ?_;exact fI R (by unfold e8;rw[dZ ad,dZ ad];have k:=IM _ (bG d);have l:=Kz (cd c b) (cd c a) ad ad ad (oH (yJ c b ad ad));rw[dd ad ad];omega)
def ua{c:Int}(a b:Nat)(h:c=28\/c=19):b7 c a b=(a+b)%4294967296:=by rcases h with rfl|rfl<;>simp[b7]
def D'{c:Int}(a b:Nat)(h:c=29):b7 c a b=(a+4294967296-b)%4294967296:=by subst h;simp[b7]
def ub{c:Int}(a b:Nat)(h:c=37\/c=24):b7 c a b=a&&&b:=by rcases h with rfl|rfl<;>simp[b7]
def uc{c:Int}(a b:Nat)(h:c=36\/c=23):b7 c a b=a ||| b:=by rcases h with rfl|rfl<;>simp[b7]
def ud{c:Int}(a b:Nat)(h:c=33\/c=22):b7 c a b=a^^^b:=by rcases h with rfl|rfl<;>simp[b7]
def ue{c:Int}(a b:Nat)(h:c=30\/c=25):b7 c a b=a*2 ^ (b%32)%4294967296:=by rcases h with rfl|rfl<;>simp[b7]
def uf{c:Int}(a b:Nat)(h:c=34\/c=26):b7 c a b=a/2 ^ (b%32):=by rcases h with rfl|rfl<;>simp[b7]
def tl{c:Int}(a b:Nat)(h:c=35\/c=27):b7 c a b=fi (bw a/2 ^ (b%32)):=by rcases h with rfl|rfl<;>simp[b7]
def tm{c:Int}(a b:Nat)(h:c=31\/c=20):b7 c a b=(if bw a<bw b then 1 else 0):=by rcases h with rfl|rfl<;>simp[b7]
def tn{c:Int}(a b:Nat)(h:c=32\/c=21):b7 c a b=(if a<b then 1 else 0):=by rcases h with rfl|rfl<;>simp[b7]
def S7{c:Int}(a b:Nat)(h:c=1):b7 c a b=b:=by subst h;simp[b7]
def rz{c:Int}(a b:Nat)(h:∀k∈[28,19,29,37,24,36,23,33,22,30,25,34,26,35,27,31,20,32,21,1],c≠k):b7 c a b=0:=by
 simp only[eu,List.not_mem_nil,or_false,forall_eq_or_imp,forall_eq]at h;unfold b7
 (repeat rw[dZ ad])
def T0(d : Int)(a b:Nat)(c:a<=4294967295)(e:b<=4294967295):bI C0 64 [vI d,vU a,vU b] (.v (.int .u32 ((b7 d a b:Nat):Int))):=by
 refine bc func64 R ?_;have u:b%32<=31:=aI (aQ _ dT);refine nW (vU (b%32)) R R dT<|zW _ (ap (bH u R))<|ct d 28 (λk=>?_) (λk=>?_)
 .refine zT (bT.2 k)<|zW _ (ap (nJ c R))<|rW _ R (ap (nJ e R)) ?_;have v:a+b<=8589934590:=aD c e;refine rW _ R (ap (nJ v R)) ?_;have w:(a+b)%4294967296<=4294967295:=aI (aQ _ dT);refine nW (.v (.int .u64 (((a+b)%4294967296:Nat):Int))) R R dT<|zW _ (ap (nJ w R)) ?_;exact fN R (ua a b ad).symm
 refine ct d 19 (λB=>?_) (λB=>?_)
 .refine zW _ (ap (nJ c R))<|rW _ R (ap (nJ e R)) ?_;have x:a+b<=8589934590:=aD c e;refine rW _ R (ap (nJ x R)) ?_;have y:(a+b)%4294967296<=4294967295:=aI (aQ _ dT);refine nW (.v (.int .u64 (((a+b)%4294967296:Nat):Int))) R R dT<|zW _ (ap (nJ y R)) ?_;exact fN R (ua a b ad).symm
 refine ct d 29 (λC=>?_) (λC=>?_)
 .refine rW _ R (ap (nJ c R)) ?_;have z:a+4294967296<=8589934591:=aD c (aC 4294967296);refine zW _ (ap (nJ z R))<|rW _ R (ap (nJ e R)) ?_;have G:((a+4294967296)+18446744073709551616-b)%18446744073709551616<=18446744073709551615:=aI (aQ _ dT);refine rW _ R (ap (xR e R)) ?_;have A:(((a+4294967296)+18446744073709551616-b)%18446744073709551616)%4294967296<=4294967295:=aI (aQ _ dT);refine nW (.v (.int .u64 (((((a+4294967296)+18446744073709551616-b)%18446744073709551616)%4294967296:Nat):Int))) R R dT<|zW _ (ap (nJ A R)) ?_;exact fN R (by rw[D' a b ad];omega)
 refine ct d 37 (λr=>?_) (λr=>?_)
 .refine zT (bT.2 r)<|zC (Pn 1 a b c e) ?_;exact fN R ((ub a b ad).trans (Oa a b c e).symm).symm
 refine ct d 24 (λD=>?_) (λD=>?_)
 .refine zC (Pn 1 a b c e) ?_;exact fN R ((ub a b ad).trans (Oa a b c e).symm).symm
 refine ct d 36 (λs=>?_) (λs=>?_)
 .refine zT (bT.2 s)<|zC (Pn 2 a b c e) ?_;exact fN R ((uc a b ad).trans (SJ a b c e).symm).symm
 refine ct d 23 (λE=>?_) (λE=>?_)
 .refine zC (Pn 2 a b c e) ?_;exact fN R ((uc a b ad).trans (SJ a b c e).symm).symm
 refine ct d 33 (λt=>?_) (λt=>?_)
 .refine zT (bT.2 t)<|zC (Pn 3 a b c e) ?_;exact fN R ((ud a b ad).trans (Ob a b c e).symm).symm
 refine ct d 22 (λF=>?_) (λF=>?_)
 .refine zC (Pn 3 a b c e) ?_;exact fN R ((ud a b ad).trans (Ob a b c e).symm).symm
 refine ct d 30 (λf=>?_) (λf=>?_)
 .refine zT (bT.2 f)<|zC (Hg a (((b%32:Nat):Int)) (0) c ad ad ad) ?_;exact fN R ((ue a b ad).trans (La a (b%32) c ad).symm).symm
 refine ct d 25 (λl=>?_) (λl=>?_)
 .refine zC (Hg a (((b%32:Nat):Int)) (0) c ad ad ad) ?_;exact fN R ((ue a b ad).trans (La a (b%32) c ad).symm).symm
 refine ct d 34 (λg=>?_) (λg=>?_)
 .refine zT (bT.2 g)<|rW _ R (gk (by rw[Int.zero_sub];exact dd ad ad))<|zC (Hg a (-((b%32:Nat):Int)) (0) c ad ad ad) ?_;exact fN R ((uf a b ad).trans (FD a (b%32) c ad).symm).symm
 refine ct d 26 (λm=>?_) (λm=>?_)
 .refine rW _ R (gk (by rw[Int.zero_sub];exact dd ad ad))<|zC (Hg a (-((b%32:Nat):Int)) (0) c ad ad ad) ?_;exact fN R ((uf a b ad).trans (FD a (b%32) c ad).symm).symm
 refine ct d 35 (λh=>?_) (λh=>?_)
 .refine zT (bT.2 h)<|zW _ (gk (by rw[Int.zero_sub];exact dd ad ad))<|aW R (Pu a 31 c dT)<|zC (Hg a (-((b%32:Nat):Int)) (a/2 ^ 31%2) c ad ad ad) ?_;exact fN R ((tl a b ad).trans (Lb a (b%32) c ad).symm).symm
 refine ct d 27 (λn=>?_) (λn=>?_)
 .refine zW _ (gk (by rw[Int.zero_sub];exact dd ad ad))<|aW R (Pu a 31 c dT)<|zC (Hg a (-((b%32:Nat):Int)) (a/2 ^ 31%2) c ad ad ad) ?_;exact fN R ((tl a b ad).trans (Lb a (b%32) c ad).symm).symm
 refine ct d 31 (λi=>?_) (λi=>?_)
 .refine zT (bT.2 i)<|zC (wL a c)<|aW R (wL b e)<|rV (vB (decide ((bw a)<(bw b)))) R<|zC (ob _) ?_;exact fN R (by rw[tm a b ad];simp only[aY])
 refine ct d 20 (λo=>?_) (λo=>?_)
 .refine zC (wL a c)<|aW R (wL b e)<|rV (vB (decide ((bw a)<(bw b)))) R<|zC (ob _) ?_;exact fN R (by rw[tm a b ad];simp only[aY])
 refine ct d 32 (λj=>?_) (λj=>?_)
 .refine zT (bT.2 j)<|rW _ R (ak (bl _ _))<|zC (ob _) ?_;exact fN R (by rw[tn a b ad];simp only[aY])
 refine ct d 21 (λp=>?_) (λp=>?_)
 .refine rW _ R (ak (bl _ _))<|zC (ob _) ?_;exact fN R (by rw[tn a b ad];simp only[aY])
 refine ct d 1 (λq=>?_) (λq=>?_)
 .exact fN R (S7 a b ad).symm
 exact fN R (rz a b (by simp;omega)).symm
def bP(i:SI)(b:Nat):Nat:=if((i.op=1\/b2 i.op=84)\/((b2 i.op=73/\ ¬i.op=4)/\ ¬aj i.op=3))then i.C else b
def Yt{i:SI}{b:Nat}(c:i.C<=4294967295)(a:b<=4294967295):bP i b<=4294967295:=by unfold bP;split<;>assumption
def Wf{i:SI}{b:Nat}(h:aj i.op=1\/aj i.op=2):bP i b=b:=by
 unfold bP;refine dZ ?_;have:=oG i.op;have:=dN i.op;omega
def z5(i:SI)(a b:Nat):b7 i.op a (bP i b)=b7 i.op a (if UB i.op=true then i.C else b):=by
 by_cases h:((i.op=1\/b2 i.op=84)\/((b2 i.op=73/\ ¬i.op=4)/\ ¬aj i.op=3))↔UB i.op=true
 .unfold bP;simp only[h]
 have c:i.op=11\/i.op=12\/i.op=13\/i.op=14\/i.op=15:=by
  have d:=oG i.op;have e:=dN i.op;simp only[UB,dE,aP,aY]at h;omega
 rw[rz _ _ (by simp;omega),rz _ _ (by simp;omega)]
def rB(i:SI)(b:Nat)(f:i.C<=4294967295)(e:b<=4294967295):bI C0 61 [g9 i,.v (.int .u32 (b:Int))] (.v (.int .u32 ((bP i b:Nat):Int))):=by
 refine bc func61 R ?_;refine zC (Vs _) ?_;refine zV (vB (i.op==1))<|aw (x:=vB ((b2 i.op)==84)) R id (ak (ba _ _))<|zN R (by simp)<|aw (x:=vB ((b2 i.op)==73)) R id (ak (ba _ _))<|zG R id<|gS R id<|aw (x:=vB (i.op != 4)) R id R<|pB (x:=vB (cE ((b2 i.op)==73) (i.op != 4) false)) (g:= !(cE (i.op==1) true ((b2 i.op)==84))) R R R R (λh=>h) R R (λa d=>by first|(rw[a,d];rfl)|simp_all)<|zG rfl id<|gS rfl id ?_;refine jQ (args:=[vI i.op]) (x:=vN (aj i.op)) (g:=(!(cE (i.op==1) true ((b2 i.op)==84)))&&(cE ((b2 i.op)==73) (i.op != 4) false)) R R R R (λh=>h) R R R (.inl R) R (λa=>SE _)<|aw (x:=vB ((aj i.op) != 3)) R id (ak (db _ _))<|pB (x:=vB (cE (cE ((b2 i.op)==73) (i.op != 4) false) ((aj i.op) != 3) false)) (g:= !(cE (i.op==1) true ((b2 i.op)==84))) R R R R (λh=>h) R R (λa d=>by first|(rw[a,d];rfl)|simp_all)<|zN rfl (by simp) ?_;refine ci ((i.op=1\/(b2 i.op)=84)\/(((b2 i.op)=73/\ ¬i.op=4)/\ ¬(aj i.op)=3)) (wP _ _ (wP _ _ bT bT) (uA _ _ (uA _ _ bT jh) jh)) (λc=>?_) (λc=>?_)
 .exact fI R (by unfold bP;rw[aa c])
 exact fI R (by unfold bP;rw[dZ c])
def zs(i:SI)(pc a b:Nat)(g:i.C<=4294967295)(k:pc<=4294967295)(j:a<=4294967295)(f:b<=4294967295):bI C0 36 [g9 i,.v (.int .u32 (pc:Int)),.v (.int .u32 (a:Int)),.v (.int .u32 (b:Int))] (.v (.int .u32 ((BF i.op i.C pc a b:Nat):Int))):=by
 refine bc func36 R ?_;refine zC (rB i b g f) ?_;refine aW R (SE _)<|zW _ (ak (ba _ _)) ?_;refine dx (aj i.op) 1 (λc=>?_) (λc=>?_)
 .refine zC (B_ i.op a (bP i b) j (Yt g f)) ?_;exact fN R (by unfold BF;rw[Wf (.inl c),aa c])
 refine aW R (SE _)<|zW _ (ak (ba _ _)) ?_;refine dx (aj i.op) 2 (λd=>?_) (λd=>?_)
 .refine zC (C2 i.op a (bP i b) j (Yt g f)) ?_;exact fN R (by unfold BF;rw[Wf (.inr d),dZ c,aa d])
 refine ct i.op 2 (λe=>?_) (λe=>?_)
 .skip
  have l:(pc+i.C)%4294967296<=4294967295:=aI (aQ _ dT);refine zV (vU ((pc+i.C)%4294967296)) ?_;exact fN R (by unfold BF;rw[dZ c,dZ d,aa e])
 refine zV (vB (i.op==3))<|gS R id<|aw (x:=vB (i.op==4)) R id R<|zN R (by simp) ?_;refine ci (i.op=3\/i.op=4) (wP _ _ bT bT) (λh=>?_) (λh=>?_)
 .skip
  have m:(pc+4)%4294967296<=4294967295:=aI (aQ _ dT);refine zV (vU ((pc+4)%4294967296)) ?_;exact fN R (by unfold BF;rw[dZ c,dZ d,dZ e,aa h])
 refine zC (T0 i.op a (bP i b) j (Yt g f)) ?_;exact fN R (by unfold BF;rw[z5,dZ c,dZ d,dZ e,dZ h])
def Mp{prog:List Nat}{pc k x:Nat}(h:pc=4*k)(a:prog[k]?=some x):es prog pc=some x:=by
 unfold es;rw[aa ad,(oT:pc/4=k),a]
def Pk{prog:List Nat}{pc:Nat}(h:∀i,i<prog.length->pc≠4*i):es prog pc=none:=by
 refine NC ?_;by_cases a:pc%4=0
 .exact .inr (Nat.le_of_not_lt λb=>h _ b ad)
 exact .inl a
def D_(o:Option Nat):AV:=.F [.v (.int .u32 ((o.getD 0:Nat):Int)),.v (.bool o.isSome)]
def y4(prog:List Nat)(pc:Nat)(a:Bool)(hp:∀x∈prog,x<=4294967295)(p:prog.length<=1000000)(j:pc<=4294967295):bI C0 31 [.Y 1 (prog.map dU) a,.v (.int .u32 (pc:Int))] (D_ (es prog pc)):=by
 refine bc func31 R ?_;refine zW _ (am (λn:Nat=>b1.ok (.v (.int .i64 (n:Int)))) (aH ..))<|dk (κ:=Nat) (λk=>⟨a6 [(0,.Y 1 (prog.map dU) a),(1,.v (.int .u32 (pc:Int))),(4,.v (.int .u32 0)),(5,.v (.bool false)),(8,.Y 1 (prog.map dU) a),(9,.v (.int .i64 ((prog.length:Nat):Int))),(10,.v (.int .i64 (k:Int)))],aq [],5⟩) (λk=>k<=prog.length/\∀i,i<k->pc≠4*i) (λk=>prog.length-k) 0 (λs=>s) (au (λs=>s) wT tr R) (⟨aE _,λi h=>absurd h (dG i)⟩) ?_;intro k f;have c:k<=1000000:=aL f.1 p;refine b0 (ak (bl _ _)) (λb=>?_) (λb=>?_)
 .skip
  obtain⟨x,g⟩:∃x,prog[k]?=some x:=⟨_,aA (ax b)⟩;have q:=hp x (aB g);refine zX (dU x) (.k 1 0 (dU x)) R (by rw[Int.toNat_natCast,aX,g];rfl) ?_;refine zW _ (ap (nJ j R))<|rW _ R (ap (nJ c R)) ?_;have l:4*k<=4000000:=cJ (aC 4) c;refine rW _ R (ap (nJ l R))<|b0 (ak (ba _ _)) (λd=>?_) (λd=>?_)
  .exact fT R (by rw[Mp (prog:=prog) (sU d) g];rfl)
  skip
  have m:k+1<=1000001:=aD c (aC 1);refine zW _ (ap (bH m R)) ?_;refine⟨k+1,λs=>s,au (λs=>s) wT tr R,⟨ax b,λi o=>if e:i=k then e ▸ (sU d)else f.2 i ad⟩,by have:=ax b;show prog.length-(k+1)<prog.length-k;omega⟩
 exact fT R (by rw[Pk (prog:=prog) (λi o=>f.2 i (oH (aF b)))];rfl)
def z2(m:ByteArray)(a n:Nat)(d:a+n<=m.size)(b:a<=4294967295)(c:n<=4):bI C0 43 [.v (.string m),.v (.int .u32 (a:Int)),.v (.int .i64 (n:Int))] (.v (.string (Cv m a n))):=by
 refine bc func43 R ?_;refine zW _ (ap (bH b R))<|zW _ (ap (bH b R))<|rW _ R (ap (dd ad ad))<|zM (.v (.string (Cv m a n))) R (⟨aG _,by show(a:Int)<=((a+n:Nat):Int);omega,by show((a+n:Nat):Int)<=((m.size:Nat):Int);omega⟩) ?_;exact qY R tr R R
def BK(s:St)(b:Int)(a:Nat)(d:s.ok)(c:a<=4294967295):bI C0 32 [h_ s,.v (.int .i64 b),.v (.int .u32 (a:Int))] (jl (Gc s b a)):=by
 refine eb func32 R ?_;refine pO R R<|oR 7 R<|rV (.agg [.v (.int .u32 ((s.M:Nat):Int)),.v (.int .u32 ((s.M:Nat):Int)),.v (.int .i64 0),.v (.int .u32 0),.v (.int .u32 (a:Int)),.v (.int .i64 0),.v (.bool false),.v (.int .i64 b),.v (.int .i64 0)]) R<|a1 R<|a1 R<|rE 19<|And.intro (by kernel_rfl)<|ck 0 R ?_;exact fT R R
def sR{x:Nat}(h: ¬¬g7 x=0): ¬dq x=0:=λq=>h (by unfold g7;rw[aa q];decide)
def sq(prog:List Nat)(s:St)(v:Bool)(hp:∀x∈prog,x<=4294967295)(K:prog.length<=1000000)(l:s.ok):bI C0 18 [.Y 1 (prog.map dU) v,h_ s] (jl (gE prog s)):=by
 refine dJ func18 ?_;have I:=KE hp s.M;have w:=E1 (a8 prog s.M) (bG I);have o:=IK (a8 prog s.M);have L:=pq (a8 prog s.M);obtain⟨i,hI⟩:∃i,be (a8 prog s.M)=i:=⟨_,R⟩;have c:rA prog s=i:=hI;rw[hI]at w o L;replace o:0<=i.rd/\i.rd<32/\0<=i.y/\i.y<32/\0<=i.A/\i.A<32/\i.C<=4294967295:=⟨o.1,o.2.1,o.2.2.1,o.2.2.2.1,o.2.2.2.2.1,o.2.2.2.2.2.1,aI o.2.2.2.2.2.2⟩;obtain⟨a,j⟩:∃a,s.r i.y.toNat=a:=⟨_,R⟩;obtain⟨b,k⟩:∃b,s.r i.A.toNat=b:=⟨_,R⟩;have D:a<=4294967295:=j ▸ l.r _;have z:b<=4294967295:=k ▸ l.r _;have M:qP i.op i.C s.M a b<=4294967295:=aI (Ed _ _ _ _ _);refine qS 0 R<|rV (.v (.bool (s.halt != 0))) R ?_;refine cr 0 R<|j3 (¬s.halt=0) jh (λd=>?_) (λd=>?_)
 .refine qC 0 R<|rV (.agg [.v (.int .u32 0),.v (.int .u32 0),.v (.int .i64 0),.v (.int .u32 0),.v (.int .u32 0),.v (.int .i64 0),.v (.bool false),.v (.int .i64 0),.v (.int .i64 0)]) R<|cg 0 R ?_;exact fT R (by unfold gE;rw[dZ d];rfl)
 refine qC 0 R<|aW R (y4 prog s.M v hp K l.M) ?_;refine cr 0 R<|j3 (¬(((es prog s.M).isSome)=true)) (th Iff.rfl) (λe=>?_) (λe=>?_)
 .refine qC 0 R<|aW R (BK s (1) (0) l dT)<|cg 0 R ?_;exact fT R (by unfold gE;rw[aa (cw.1 d),dZ e];rfl)
 refine qC 0 R<|aW R (w)<|qR 0 R<|rW (.v (.bool ((g7 (a8 prog s.M)) != 0))) R (ak (db _ _)) ?_;refine cr 0 R<|j3 (¬(g7 (a8 prog s.M))=0) jh (λf=>?_) (λf=>?_)
 .refine qC 0 R<|aW R (BK s (2) (0) l dT)<|cg 0 R ?_;exact fT R (by unfold gE;rw[aa (cw.1 d),aa (cw.1 e),aa (dw λq=>f (by unfold g7;rw[dZ q]))];rfl)
 refine qC 0 R<|rV (.v (.bool (i.op==47))) R ?_;refine cr 0 R<|kg i.op 47 (λg=>?_) (λg=>?_)
 .refine qC 0 R<|aW R (BK s (6) (0) l dT)<|cg 0 R ?_;exact fT R (by unfold gE;rw[aa (cw.1 d),aa (cw.1 e),dZ (sR f),c];unfold dj;rw[aa g];rfl)
 refine qC 0 R<|rV (.v (.bool (i.op==48))) R ?_;refine cr 0 R<|kg i.op 48 (λh=>?_) (λh=>?_)
 .refine qC 0 R<|aW R (BK s (7) (0) l dT)<|cg 0 R ?_;exact fT R (by unfold gE;rw[aa (cw.1 d),aa (cw.1 e),dZ (sR f),c];unfold dj;rw[dZ g,aa h];rfl)
 refine qC 0 R<|nW (.ptr 0 (1+(i.y).toNat*1)) R R ad<|rW (.v (.int .u32 (a:Int))) R ((o8 _ _ _ _ _ ad).trans (by rw[j]))<|qR 0 R<|nW (.ptr 0 (1+(i.A).toNat*1)) R R ad<|rW (.v (.int .u32 (b:Int))) R ((o8 _ _ _ _ _ ad).trans (by rw[k])) ?_;refine qR 0 R<|aW R (SE i.op)<|cr 0 R<|a7<|oR 4 R<|rV (.v (.int .u32 ((b_ s.M:Nat):Int))) R<|oR 1 R<|aW R (Yw i)<|rV (.agg [.v (.int .u32 ((s.M:Nat):Int)),.v (.int .u32 ((b_ s.M:Nat):Int)),.v (.int .i64 (wr i)),.v (.int .u32 0),.v (.int .u32 0),.v (.int .i64 0),.v (.bool false),.v (.int .i64 0),.v (.int .i64 0)]) R<|dm 57 R R<|a1 R<|rE 59 ?_;refine qX 0 R<|aW R (zs i s.M a b o.2.2.2.2.2.2 l.M D z)<|qR 0 R<|rW (.v (.bool ((aj i.op)==3))) R (ak (ba _ _)) ?_;refine qR 0 R<|aw (x:=.v (.bool ((aj i.op)==4))) R id (ak (ba _ _))<|bO R R R (by simp) ?_;refine cr 0 R<|j3 ((aj i.op)=3\/(aj i.op)=4) (wP _ _ bT bT) (λm=>?_) (λm=>?_)
 .refine qC 0 R<|rV (.v (.int .u32 ((fa i a:Nat):Int))) R<|qR 0 R<|aW R (tf i.op) ?_;refine qR 0 R<|rV (.v (.int .i64 (s.mem.size:Int))) R<|qR 0 R<|aW R (zr s.mem.size (fa i a) (bh i.op) l.mem (Ay i a) (lQ i.op)) ?_;refine cr 0 R<|j3 (¬((kZ (s.mem.size:Int) (fa i a) ((bh i.op:Nat):Int))=true)) (th Iff.rfl) (λr=>?_) (λr=>?_)
  .refine qC 0 R<|rW (.v (.bool ((aj i.op)==3))) R (ak (ba _ _)) ?_;refine cr 0 R<|kg (aj i.op) 3 (λJ=>?_) (λJ=>?_)
   .refine qC 0 R<|aW R (BK s (4) ((fa i a)) l (Ay i a))<|cg 0 R ?_;exact fT R (by unfold gE;rw[aa (cw.1 d),aa (cw.1 e),dZ (sR f),c];unfold dj;rw[dZ g,dZ h,aa m,j,k];unfold sN;rw[dZ r,dZ ad];rfl)
   refine qC 0 R<|aW R (BK s (5) ((fa i a)) l (Ay i a))<|cg 0 R ?_;exact fT R (by unfold gE;rw[aa (cw.1 d),aa (cw.1 e),dZ (sR f),c];unfold dj;rw[dZ g,dZ h,aa m,j,k];unfold sN;rw[dZ r,aa ad];rfl)
  refine qC 0 R<|rW (.v (.bool ((aj i.op)==4))) R (ak (ba _ _)) ?_;refine cr 0 R<|kg (aj i.op) 4 (λt=>?_) (λt=>?_)
  .refine qC 0 R<|aW R (zu b (bh i.op) z (lQ i.op)) ?_;have y:=sQ (sU r);refine qR 0 R<|aW R (zq s.mem (fa i a) (oF b (bh i.op)) (by rw[mP];exact y.1) l.mem (Ay i a) (by rw[mP];exact lQ i.op)) ?_;refine qR 0 R<|aW R (sr _ (by rw[mP];exact lQ i.op))<|cr 0 R<|pO R R ?_;refine oR 2 R<|a1 R<|a1 R<|rE 133<|And.intro (by kernel_rfl)<|ck 0 R ?_;exact fT R (by unfold gE;rw[aa (cw.1 d),aa (cw.1 e),dZ (sR f),c];unfold dj;rw[dZ g,dZ h,aa m,j,k];unfold sN;rw[aa (cw.1 r),aa t];rw[show(aj i.op==4)=true from pU.2 t];rfl)
  refine j4 0 R<|a7<|oR 3 R ?_;have y:=sQ (sU r);refine oR 5 R<|aW R (z2 s.mem (fa i a) (bh i.op) y.1 (Ay i a) (lQ i.op))<|aW R (z3 i.op _)<|oR 1 R<|rE 108<|qX 0 R<|rW (.v (.bool ((aj i.op)==5))) R (ak (ba _ _)) ?_;refine cr 0 R<|kg (aj i.op) 5 (λA=>absurd A (oH (oG i.op))) (λA=>?_);refine qC 0 R<|rW (.v (.bool ((aj i.op)==2))) R (ak (ba _ _)) ?_;refine cr 0 R<|kg (aj i.op) 2 (λB=>absurd B (oH (oG i.op))) (λB=>?_);refine qC 0 R<|rV (.v (.bool (decide ((wr i)>0)))) R ?_;refine cr 0 R<|j3 ((wr i)>0) qW (λE=>?_) (λE=>?_)
  .refine qC 0 R<|nW (.ptr 67 (1+(wr i).toNat*1)) R R ad<|Ow (h':=an _ 67 (some (.box (c6 s.M (hL s.r ((wr i).toNat) (hG i.op (Cv s.mem (fa i a) (bh i.op)))) s.mem s.halt)))) R R (Wc (n:=(wr i).toNat) (v:=hG i.op (Cv s.mem (fa i a) (bh i.op))) (r:=s.r) R R R ad) (trivial) ?_;refine cr 0 R<|pO R R<|oR 2 R<|a1 R<|a1 R<|rE 132<|And.intro (by kernel_rfl)<|ck 0 R ?_;exact fT R (by unfold gE;rw[aa (cw.1 d),aa (cw.1 e),dZ (sR f),c];unfold dj;rw[dZ g,dZ h,aa m,j,k];unfold sN;rw[aa (cw.1 r),dZ t,dZ ad];rw[show(aj i.op==4)=false from beq_false_of_ne t];rfl)
  refine j4 0 R<|pO R R<|oR 2 R<|a1 R<|a1 R<|rE 123<|And.intro (by kernel_rfl)<|ck 0 R ?_;exact fT R (by unfold gE;rw[aa (cw.1 d),aa (cw.1 e),dZ (sR f),c];unfold dj;rw[dZ g,dZ h,aa m,j,k];unfold sN;rw[aa (cw.1 r),dZ t,aa ad];rw[show(aj i.op==4)=false from beq_false_of_ne t];rfl)
 refine qC 0 R<|rW (.v (.bool ((aj i.op)==5))) R (ak (ba _ _)) ?_;refine cr 0 R<|kg (aj i.op) 5 (λn=>?_) (λn=>?_)
 .refine qC 0 R<|aW R (B2 i s.M a b o.2.2.2.2.2.2 l.M D z) ?_;have N:(qP i.op i.C s.M a b)%4<=3:=aI (aQ _ dT);refine qR 0 R<|nW (.v (.int .u32 (((qP i.op i.C s.M a b)%4:Nat):Int))) R R dT<|rW (.v (.bool (((qP i.op i.C s.M a b)%4) != 0))) R (ak (db _ _)) ?_;refine cr 0 R<|j3 (¬((qP i.op i.C s.M a b)%4)=0) jh (λu=>?_) (λu=>?_)
  .refine qC 0 R<|aW R (BK s (3) (0) l dT)<|cg 0 R ?_;exact fT R (by unfold gE;rw[aa (cw.1 d),aa (cw.1 e),dZ (sR f),c];unfold dj;rw[dZ g,dZ h,dZ m,j,k];unfold oN IJ;rw[aa n,dZ u];rfl)
  refine qC 0 R<|rW (.v (.bool ((aj i.op)==2))) R (ak (ba _ _)) ?_;refine cr 0 R<|kg (aj i.op) 2 (λC=>absurd C (oH (oG i.op))) (λC=>?_);refine qC 0 R<|rV (.v (.bool (decide ((wr i)>0)))) R ?_;refine cr 0 R<|j3 ((wr i)>0) qW (λF=>?_) (λF=>?_)
  .refine qC 0 R<|nW (.ptr 67 (1+(wr i).toNat*1)) R R ad<|Ow (h':=an _ 67 (some (.box (c6 s.M (hL s.r ((wr i).toNat) (BF i.op i.C s.M a b)) s.mem s.halt)))) R R (Wc (n:=(wr i).toNat) (v:=BF i.op i.C s.M a b) (r:=s.r) R R R ad) (trivial) ?_;refine cr 0 R<|pO R R<|oR 2 R<|a1 R<|a1 R<|rE 111<|And.intro (by kernel_rfl)<|ck 0 R ?_;exact fT R (by unfold gE;rw[aa (cw.1 d),aa (cw.1 e),dZ (sR f),c];unfold dj;rw[dZ g,dZ h,dZ m,j,k];unfold oN IJ;rw[aa n,aa (cw.1 u),dZ ad];rfl)
  refine j4 0 R<|pO R R<|oR 2 R<|a1 R<|a1 R<|rE 102<|And.intro (by kernel_rfl)<|ck 0 R ?_;exact fT R (by unfold gE;rw[aa (cw.1 d),aa (cw.1 e),dZ (sR f),c];unfold dj;rw[dZ g,dZ h,dZ m,j,k];unfold oN IJ;rw[aa n,aa (cw.1 u),aa ad];rfl)
 refine qC 0 R<|rW (.v (.bool ((aj i.op)==2))) R (ak (ba _ _)) ?_;refine cr 0 R<|kg (aj i.op) 2 (λp=>?_) (λp=>?_)
 .refine qC 0 R<|aW R (z4 i.op a b D z)<|qR 0 R<|rV (.v (.bool (decide ((wr i)>0)))) R ?_;refine cr 0 R<|j3 ((wr i)>0) qW (λG=>?_) (λG=>?_)
  .refine qC 0 R<|nW (.ptr 67 (1+(wr i).toNat*1)) R R ad<|Ow (h':=an _ 67 (some (.box (c6 s.M (hL s.r ((wr i).toNat) (BF i.op i.C s.M a b)) s.mem s.halt)))) R R (Wc (n:=(wr i).toNat) (v:=BF i.op i.C s.M a b) (r:=s.r) R R R ad) (trivial) ?_;refine cr 0 R<|pO R R<|oR 2 R<|a1 R<|a1 R<|rE 106<|And.intro (by kernel_rfl)<|ck 0 R ?_;exact fT R (by unfold gE;rw[aa (cw.1 d),aa (cw.1 e),dZ (sR f),c];unfold dj;rw[dZ g,dZ h,dZ m,j,k];unfold oN IJ;rw[dZ n,dZ ad,aa p];rfl)
  refine j4 0 R<|pO R R<|oR 2 R<|a1 R<|a1 R<|rE 97<|And.intro (by kernel_rfl)<|ck 0 R ?_;exact fT R (by unfold gE;rw[aa (cw.1 d),aa (cw.1 e),dZ (sR f),c];unfold dj;rw[dZ g,dZ h,dZ m,j,k];unfold oN IJ;rw[dZ n,aa ad,aa p];rfl)
 refine qC 0 R<|rV (.v (.bool (decide ((wr i)>0)))) R ?_;refine cr 0 R<|j3 ((wr i)>0) qW (λH=>?_) (λH=>?_)
 .refine qC 0 R<|nW (.ptr 67 (1+(wr i).toNat*1)) R R ad<|Ow (h':=an _ 67 (some (.box (c6 s.M (hL s.r ((wr i).toNat) (BF i.op i.C s.M a b)) s.mem s.halt)))) R R (Wc (n:=(wr i).toNat) (v:=BF i.op i.C s.M a b) (r:=s.r) R R R ad) (trivial) ?_;refine cr 0 R<|pO R R<|oR 2 R<|a1 R<|a1 R<|rE 99<|And.intro (by kernel_rfl)<|ck 0 R ?_;exact fT R (by unfold gE;rw[aa (cw.1 d),aa (cw.1 e),dZ (sR f),c];unfold dj;rw[dZ g,dZ h,dZ m,j,k];unfold oN IJ;rw[dZ n,dZ ad,dZ p];rfl)
 refine j4 0 R<|pO R R<|oR 2 R<|a1 R<|a1 R<|rE 90<|And.intro (by kernel_rfl)<|ck 0 R ?_;exact fT R (by unfold gE;rw[aa (cw.1 d),aa (cw.1 e),dZ (sR f),c];unfold dj;rw[dZ g,dZ h,dZ m,j,k];unfold oN IJ;rw[dZ n,aa ad,dZ p];rfl)
abbrev lC(x:St×Sp):List AV:=a2 x.2
def sk{prog:List Nat}{s:St}{k:Nat}(h:(bf prog s (cz prog k s)).halt=0):cz prog (k+1) s=cz prog k s+1:=by
 have a:=AB prog k s;have b:=AB prog (k+1) s;have c:cz prog k s=k:=dw λq=>Dj ad h;refine dw λq=>Dj (prog:=prog) (n:=k+1) (s:=s) ad ?_;rcases fb (cz prog (k+1) s) (cz prog k s)with l|l
 .exact Hd l
 rw[(oT:cz prog (k+1) s=cz prog k s)];exact h
def sm{prog:List Nat}{s:St}{k:Nat}(h: ¬(bf prog s (cz prog k s)).halt=0):cz prog (k+1) s=cz prog k s:=by
 have a:=AB prog k s;rcases Nat.lt_trichotomy (cz prog (k+1) s) (cz prog k s)with l|l|l
 .exact absurd (Hd l) (Dj ad)
 .exact l
 exact absurd (Hd l) h
def qL(prog:List Nat)(s:St)(k:Nat):List (List AV):=((e9 prog s (cz prog k s)).map Prod.snd).map a2
def cu(prog:List Nat)(s:St)(k:Nat):St:=bf prog s (cz prog k s)
def Jn{prog:List Nat}{s:St}{k:Nat}(h:(cu prog s k).halt=0):qL prog s (k+1)=qL prog s k++[lC (gE prog (cu prog s k))]:=by
 unfold qL;rw[sk h, <-KW,dH,dH];rfl
def Sr{prog:List Nat}{s:St}{k:Nat}(h:(cu prog s k).halt=0):cu prog s (k+1)=(gE prog (cu prog s k)).1:=by
 unfold cu;rw[sk h];rfl
def Ss{prog:List Nat}{s:St}{k:Nat}(h: ¬(cu prog s k).halt=0):qL prog s (k+1)=qL prog s k:=by
 unfold qL;rw[sm h]
def Yo{prog:List Nat}{s:St}{k:Nat}(h: ¬(cu prog s k).halt=0):cu prog s (k+1)=cu prog s k:=by
 unfold cu;rw[sm h]
def sn{prog:List Nat}{s:St}(k:Nat)(h:s.ok):(cu prog s k).ok:=Si h _
def y3(prog:List Nat)(s:St)(k:Nat):(qL prog s k).length<=k:=by
 unfold qL;rw[aH,aH,lR];exact AB prog k s
def NV(prog:List Nat)(s:St)(k:Nat):(List.take (qL prog s k).length (List.drop 0 (qL prog s k)))=qL prog s k:=by rw[bS,cH]
def Yp{S:Nat->Prop}{w:World}{v:Value}(h:av S w cy (.Y 9 [] true) v):av S w cy (.Y 9 [] false) v:=by
 cases h with
 |Y _ _ _ A c b o u f g k a e j d i=>exact .Y 9 [] false A c b o u f g (λh=>by cases h) a e j d i
def Yq{S:Nat->Prop}{w:World}{v:Value}{x:AV}(h:av S w cy (.F [x,.Y 9 [] true]) v):av S w cy (.F [x,.Y 9 [] false]) v:=by
 cases h with
 |F _ c b h=>
  refine .F _ c b λi a u p q=>?_
  match i,p with
  |0,p=>exact h 0 a u p q
  |1,p=>injection p with p;subst p;exact Yp (h 1 _ u R q)
  |i+2,p=>simp at p
def FB{a b:Bool}(h:cE a b false=true):a=true/\b=true:=by cases a<;>cases b<;>simp_all[cE]
def Hf{p q:Prop}[Decidable p][Decidable q](h:cE (decide p) (decide q) false=false): ¬p\/ ¬q:=by by_cases hp:p<;>by_cases a:q<;>simp_all[cE]
def ui(prog:List Nat)(m:ByteArray)(n:Int)(a:Bool)(hp:∀x∈prog,x<=4294967295)(j:prog.length<=1000000):bI C0 9 [.Y 1 (prog.map dU) a,.v (.string m),.v (.int .i64 n)] (.F [h_ (hv (a3 m) (e9 prog (a3 m) (cz prog (min n 10000).toNat (a3 m)))),.Y 9 (((e9 prog (a3 m) (cz prog (min n 10000).toNat (a3 m))).map Prod.snd).map a2) false]):=by
 rw[Jj];change bI C0 _ _ (.F [h_ (cu prog (a3 m) (min n 10000).toNat),.Y 9 (qL prog (a3 m) (min n 10000).toNat) false]);refine dI func9 ?_;obtain⟨Z,d⟩:∃z,a3 m=z:=⟨_,R⟩;have hZ:Z.ok:=d ▸ Jk m;have c:(cu prog Z 0).halt=0:=by rw[<-d];rfl
 rw[d];refine qS 0 R<|aW R (pw m)<|zV (.agg (c6 0 (λ_=>0) (jB m) 0))<|zV (.Y 9 ([]) true) ?_;refine jR (κ:=Nat) (λk=>match k with|0=>⟨a6 [(0,.Y 1 (prog.map dU) a),(2,.v (.int .i64 n)),(8,.ptr 5 0),(6,.ptr 0 0),(9,.Y 9 ([]) true),(10,.v (.int .i64 ((0:Nat):Int)))],aq [(5,.box (c6 ((cu prog Z 0).M) ((cu prog Z 0).r) ((cu prog Z 0).mem) ((cu prog Z 0).halt))),(0,.box (c6 0 (λ_=>0) (⟨#[]⟩:ByteArray) 0))],10⟩|k+1=>⟨a6 [(0,.Y 1 (prog.map dU) a),(2,.v (.int .i64 n)),(8,.ptr 5 0),(6,.ptr 0 0),(9,.X 10 0 ((qL prog Z (k+1)).length) false),(10,.v (.int .i64 (((k+1):Nat):Int)))],aq [(5,.box (c6 ((cu prog Z (k+1)).M) ((cu prog Z (k+1)).r) ((cu prog Z (k+1)).mem) ((cu prog Z (k+1)).halt))),(0,.box (c6 0 (λ_=>0) (⟨#[]⟩:ByteArray) 0)),(10,.arr (qL prog Z (k+1)) 9)],11⟩) (λk=>k<=10000/\(k=0\/(k:Int)<=n)) (λk=>10000-k) 0 (λs=>s) (au (λs=>s) wT ⟨⟨R,am (λs:St=>some (a'.box (c6 s.M s.r s.mem s.halt))) d,R⟩,⟨R,R,R⟩,tr⟩ R) (⟨aE _,.inl R⟩) ?_;intro k i;rcases k with _|k
 .refine qS 0 rfl<|zV (.v (.bool (decide (((0:Nat):Int)<n))))<|aw (x:=.v (.bool (decide (0<10000)))) R id (ak (bl _ _))<|zN R (λh=>h) ?_;refine zB R (λe=>?_) (λe=>?_)
  .refine zV (.v (.bool (((cu prog Z 0).halt)==0))) ?_;refine zB R (λ_=>?_) (λl=>by exact absurd c (sU l));refine zC (sq prog (cu prog Z 0) a hp j (sn 0 hZ)) ?_;refine rV (.Y 9 ([[.v (.int .u32 ((((gE prog (cu prog Z 0)).2).M:Nat):Int)),.v (.int .u32 ((((gE prog (cu prog Z 0)).2).next:Nat):Int)),.v (.int .i64 (((gE prog (cu prog Z 0)).2).rd)),.v (.int .u32 ((((gE prog (cu prog Z 0)).2).value:Nat):Int)),.v (.int .u32 ((((gE prog (cu prog Z 0)).2).W:Nat):Int)),.v (.int .i64 (((gE prog (cu prog Z 0)).2).size)),.v (.bool (((gE prog (cu prog Z 0)).2).store)),.v (.int .i64 (((gE prog (cu prog Z 0)).2).halt)),.v (.int .i64 (((gE prog (cu prog Z 0)).2).d))]]) true) R<|zF (x:=.X 35 0 1 false) (h':=an _ 35 (some (.arr ([lC (gE prog (cu prog Z 0))]) 9))) (rfl) (⟨by show 1<=1000000;decide,Nat.zero_lt_one,tr,tr⟩)<|zV (.v (.int .i64 (IntKind.wrap .i64 (((0:Nat):Int)+1)))) ?_;have q:=FB e;have p:=ax q.1;have r:=ax q.2;refine⟨0+1,λs=>match s with|10=>35|s=>s,au _ ⟨⟨R,R⟩,⟨R,R⟩,⟨R,R⟩,⟨R,R⟩,⟨am (λz=>AV.X 35 0 z false) (show 1=(qL prog Z (0+1)).length from by rw[Jn c];rfl),R⟩,⟨am (λz:Int=>AV.v (.int .i64 z)) (show IntKind.wrap .i64 (((0:Nat):Int)+1)=((0+1:Nat):Int)from by rw[dd ad ad];omega),R⟩,tr⟩ ⟨⟨R,am (λs:St=>some (a'.box (c6 s.M s.r s.mem s.halt))) (Sr c).symm,R⟩,⟨R,R,R⟩,⟨R,am (λz=>some (a'.arr z 9)) (show [lC (gE prog (cu prog Z 0))]=qL prog Z (0+1)from by rw[Jn c];rfl),R⟩,tr⟩ R,ad,(by show(10000-(0+1):Nat)<10000-0;omega)⟩
  refine ck 0 R ?_;have g:(min n 10000).toNat=0:=by have q:=Hf e;have:=i;omega
  refine⟨_,R,tr,R,λS w v o=>?_⟩;rw[g];exact Yq o
 refine qS 0 R<|zV (.v (.bool (decide ((((k+1):Nat):Int)<n))))<|aw (x:=.v (.bool (decide ((k+1)<10000)))) R id (ak (bl _ _))<|zN R (λh=>h) ?_;refine zB R (λf=>?_) (λf=>?_)
 .refine zV (.v (.bool (((cu prog Z (k+1)).halt)==0))) ?_;refine zB R (λb=>?_) (λb=>?_)
  all_goals
   first|(refine zC (sq prog (cu prog Z (k+1)) a hp j (sn (k+1) hZ)) ?_;refine rV (.Y 9 ([[.v (.int .u32 ((((gE prog (cu prog Z (k+1))).2).M:Nat):Int)),.v (.int .u32 ((((gE prog (cu prog Z (k+1))).2).next:Nat):Int)),.v (.int .i64 (((gE prog (cu prog Z (k+1))).2).rd)),.v (.int .u32 ((((gE prog (cu prog Z (k+1))).2).value:Nat):Int)),.v (.int .u32 ((((gE prog (cu prog Z (k+1))).2).W:Nat):Int)),.v (.int .i64 (((gE prog (cu prog Z (k+1))).2).size)),.v (.bool (((gE prog (cu prog Z (k+1))).2).store)),.v (.int .i64 (((gE prog (cu prog Z (k+1))).2).halt)),.v (.int .i64 (((gE prog (cu prog Z (k+1))).2).d))]]) true) rfl ?_;refine zF (x:=.X 36 0 ((List.take (qL prog Z (k+1)).length (List.drop 0 (qL prog Z (k+1)))).length+([lC (gE prog (cu prog Z (k+1)))]:List (List AV)).length) false) (h':=an (an _ 10 none) 36 (some (.arr (List.take (qL prog Z (k+1)).length (List.drop 0 (qL prog Z (k+1)))++[lC (gE prog (cu prog Z (k+1)))]) 9))) (rfl) (⟨by show(List.take (qL prog Z (k+1)).length (List.drop 0 (qL prog Z (k+1)))).length+1<=1000000;rw[NV];have:=y3 prog Z (k+1);have:=i;omega,by show 0+(qL prog Z (k+1)).length=(qL prog Z (k+1)).length;omega,tr⟩) ?_)|skip
   refine zV (.v (.int .i64 (IntKind.wrap .i64 ((((k+1):Nat):Int)+1)))) ?_;have q:=FB f;have p:=ax q.1;have r:=ax q.2
   first|(refine⟨(k+1)+1,λs=>match s with|10=>36|s=>s,au _ ⟨⟨R,R⟩,⟨R,R⟩,⟨R,R⟩,⟨R,R⟩,⟨am (λz=>AV.X 36 0 z false) (show(List.take (qL prog Z (k+1)).length (List.drop 0 (qL prog Z (k+1)))).length+1=(qL prog Z ((k+1)+1)).length from by rw[NV,Jn (sU b:(cu prog Z (k+1)).halt=0)];simp),R⟩,⟨am (λz:Int=>AV.v (.int .i64 z)) (show IntKind.wrap .i64 ((((k+1):Nat):Int)+1)=(((k+1)+1:Nat):Int)from by rw[dd ad ad];omega),R⟩,tr⟩ ⟨⟨R,am (λs:St=>some (a'.box (c6 s.M s.r s.mem s.halt))) (Sr (sU b:(cu prog Z (k+1)).halt=0)).symm,R⟩,⟨R,R,R⟩,⟨R,am (λz=>some (a'.arr z 9)) (show List.take (qL prog Z (k+1)).length (List.drop 0 (qL prog Z (k+1)))++[lC (gE prog (cu prog Z (k+1)))]=qL prog Z ((k+1)+1)from by rw[NV,Jn (sU b:(cu prog Z (k+1)).halt=0)]),R⟩,tr⟩ R,ad,(by show(10000-((k+1)+1):Nat)<10000-(k+1);omega)⟩)|(refine⟨(k+1)+1,λs=>s,au _ ⟨⟨R,R⟩,⟨R,R⟩,⟨R,R⟩,⟨R,R⟩,⟨am (λz=>AV.X 10 0 (List.length z) false) (show(qL prog Z (k+1))=qL prog Z ((k+1)+1)from(Ss (sU b:¬(cu prog Z (k+1)).halt=0)).symm),R⟩,⟨am (λz:Int=>AV.v (.int .i64 z)) (show IntKind.wrap .i64 ((((k+1):Nat):Int)+1)=(((k+1)+1:Nat):Int)from by rw[dd ad ad];omega),R⟩,tr⟩ ⟨⟨R,am (λs:St=>some (a'.box (c6 s.M s.r s.mem s.halt))) (Yo (sU b:¬(cu prog Z (k+1)).halt=0)).symm,R⟩,⟨R,R,R⟩,⟨R,am (λz=>some (a'.arr z 9)) (show(qL prog Z (k+1))=qL prog Z ((k+1)+1)from(Ss (sU b:¬(cu prog Z (k+1)).halt=0)).symm),R⟩,tr⟩ R,ad,(by show(10000-((k+1)+1):Nat)<10000-(k+1);omega)⟩)
 refine ck 0 R ?_;have g:(min n 10000).toNat=(k+1):=by have q:=Hf f;have:=i;omega
 refine qY R ⟨ga,Nat.le_of_eq (bJ _),tr⟩ R ?_;rw[g];show AV.F [h_ (cu prog Z (k+1)),.Y 9 (List.take (qL prog Z (k+1)).length (List.drop 0 (qL prog Z (k+1)))) false]=_;rw[NV]
def iu(c:Cf)(k:Nat):List Int:=(c.q.take (min k 64)).map λn=>bV n 1 8
def ix(c:Cf)(k:Nat):List Nat:=c.tape.take (min k 64)
def I'{c:Cf}{k:Nat}(h:k<=c.q.length):(iu c k).length=min k 64:=by unfold iu;rw[aH,aM];omega
def H7{c:Cf}{k:Nat}(h:k<=c.tape.length):(ix c k).length=min k 64:=by unfold ix;rw[aM];omega
def vg{c:Cf}{k:Nat}{x:Int}(h:c.q[k]?=some x)(a:k<64):iu c k++[bV x 1 8]=iu c (k+1):=by
 unfold iu;rw[(oT:min k 64=k),(oT:min (k+1) 64=k+1),bW,h];simp
def G7{c:Cf}{k:Nat}(a: ¬k<64):iu c k=iu c (k+1):=by unfold iu;rw[(oT:min k 64=min (k+1) 64)]
def u6{c:Cf}{k:Nat}{x:Nat}(h:c.tape[k]?=some x)(a:k<64):ix c k++[x]=ix c (k+1):=by
 unfold ix;rw[(oT:min k 64=k),(oT:min (k+1) 64=k+1),bW,h];simp
def G3{c:Cf}{k:Nat}(a: ¬k<64):ix c k=ix c (k+1):=by unfold ix;rw[(oT:min k 64=min (k+1) 64)]
def vr{c:Cf}{k:Nat}(h:c.q.length<=k):iu c k=(bZ c).q:=by
 unfold iu bZ;show _=(c.q.take 64).map _;congr 1;by_cases a:c.q.length<=64
 .rw[aN oT,aN a]
 rw[(oT:min k 64=64)]
def vh{c:Cf}{k:Nat}(h:c.tape.length<=k):ix c k=(bZ c).tape:=by
 unfold ix bZ;show _=c.tape.take 64;by_cases a:c.tape.length<=64
 .rw[aN oT,aN a]
 rw[(oT:min k 64=64)]
def ka(n lo a:Int)(h:lo<=a):bI C0 91 [vI n,vI lo,vI a] (vI (bV n lo a)):=by
 refine bc func91 R ?_;refine b' (x:=vB (decide (n<lo))) R R R ?_;refine cr 0 R<|zB R (λb=>?_) (λb=>?_)
 .have d:=ax b;exact dK R tr R (am vI (by unfold bV;(repeat' split)<;>omega))
 have d:=aF b;refine b' (x:=vB (decide (n>a))) R R R ?_;refine cr 0 R<|zB R (λc=>?_) (λc=>?_)
 .have e:=ax c;exact dK R tr R (am vI (by unfold bV;(repeat' split)<;>omega))
 have e:=aF c;exact dK R tr R (am vI (by unfold bV;(repeat' split)<;>omega))
def JP(c:Cf)(a:c.ok):bI C0 54 [.agg (er c false false)] (.agg (er (bZ c) false false)):=by
 refine eb func54 R ?_;refine Wz R<|oR 2 R<|g5 R (.inl R) (ka c.mode 0 2 dT)<|oR 2 R<|g5 R (.inl R) (ka c.o 1 2 dT)<|oR 2 R<|g5 R (.inl R) (ka c.Z 2 8 dT)<|oR 2 R<|g5 R (.inl R) (ka c.queue 1 4 dT)<|oR 2 R ?_;refine g5 R (.inl R) (ka c.V 1 4 dT)<|oR 2 R<|g5 R (.inl R) (ka c.m 2 6 dT)<|oR 2 R<|g5 R (.inl R) (ka c.O 1 4 dT)<|oR 2 R<|g5 R (.inl R) (ka c.ways 1 2 dT)<|oR 2 R<|b' (x:=.agg [vI (bV c.mode 0 2),vI (bV c.o 1 2),vI (bV c.Z 2 8),vI (bV c.queue 1 4),vI (bV c.V 1 4),vI (bV c.m 2 6),vI (bV c.O 1 4),vI (bV c.ways 1 2),.Y 0 ([]) true,vB c.tables,.Y 0 ([]) true]) R R R<|dm 29 R R<|a1 R<|rE 31 ?_;refine xr 0 0 R<|Fq (κ:=Unit) (λf=>⟨a6 [(1,.ptr 0 0),(2,.ptr 1 0),(3,.ptr 29 0)],aq [(0,.box [vI c.mode,vI c.o,vI c.Z,vI c.queue,vI c.V,vI c.m,vI c.O,vI c.ways,.Y 1 (c.q.map bm) false,vB c.tables,.Y 1 (c.tape.map dU) false]),(1,.box [vI 0,vI 0,vI 0,vI 0,vI 0,vI 0,vI 0,vI 0,.Y 0 ([]) true,vB false,.Y 0 ([]) true]),(29,.box [vI (bV c.mode 0 2),vI (bV c.o 1 2),vI (bV c.Z 2 8),vI (bV c.queue 1 4),vI (bV c.V 1 4),vI (bV c.m 2 6),vI ((bZ c).O),vI (bV c.ways 1 2),.Y 0 ([]) true,vB c.tables,.Y 0 ([]) true])],31⟩) (λf=>True) ?_ ?_
 .refine qS 0 R<|b' (x:=vB ((bV c.O 1 4)==3)) R R R ?_;refine cr 0 R<|zB R (λl=>?_) (λl=>?_)
  .have q:=mT l;refine .mk _ (.refl _) ⟨(),λs=>s,au (λs=>s) wT ⟨⟨R,R,R⟩,⟨R,R,R⟩,⟨R,(by rw[show(bZ c).O=2 from aa (sU l)];rfl),R⟩,tr⟩ R,R,tr⟩
  have q:=nA l;refine .mk _ (.refl _) ⟨(),λs=>s,au (λs=>s) wT ⟨⟨R,R,R⟩,⟨R,R,R⟩,⟨R,(by rw[show(bZ c).O=bV c.O 1 4 from dZ (sU l)];rfl),R⟩,tr⟩ R,R,tr⟩
 intro f _;refine Fq (κ:=Unit) (λf=>⟨a6 [(1,.ptr 0 0),(2,.ptr 1 0),(3,.ptr 29 0)],aq [(0,.box [vI c.mode,vI c.o,vI c.Z,vI c.queue,vI c.V,vI c.m,vI c.O,vI c.ways,.Y 1 (c.q.map bm) false,vB c.tables,.Y 1 (c.tape.map dU) false]),(1,.box [vI 0,vI 0,vI 0,vI 0,vI 0,vI 0,vI 0,vI 0,.Y 0 ([]) true,vB false,.Y 0 ([]) true]),(29,.box [vI (bV c.mode 0 2),vI (bV c.o 1 2),vI (bV c.Z 2 8),vI (bV c.queue 1 4),vI (bV c.V 1 4),vI (bV c.m 2 6),vI ((bZ c).O),vI (bV c.ways 1 2),.Y 1 (((bZ c).q).map bm) false,vB c.tables,.Y 0 ([]) true])],31⟩) (λf=>True) ?_ ?_
 .refine qS 0 R<|b' (x:=vN c.q.length) R R (cD bm c.q)<|cr 0 R<|jR (κ:=Nat) (λk=>match k with|0=>⟨a6 [(1,.ptr 0 0),(2,.ptr 1 0),(3,.ptr 29 0),(40,.Y 1 (c.q.map bm) false),(41,vN c.q.length),(42,vN 0)],aq [(0,.box [vI c.mode,vI c.o,vI c.Z,vI c.queue,vI c.V,vI c.m,vI c.O,vI c.ways,.Y 1 (c.q.map bm) false,vB c.tables,.Y 1 (c.tape.map dU) false]),(1,.box [vI 0,vI 0,vI 0,vI 0,vI 0,vI 0,vI 0,vI 0,.Y 0 ([]) true,vB false,.Y 0 ([]) true]),(29,.box [vI (bV c.mode 0 2),vI (bV c.o 1 2),vI (bV c.Z 2 8),vI (bV c.queue 1 4),vI (bV c.V 1 4),vI (bV c.m 2 6),vI ((bZ c).O),vI (bV c.ways 1 2),.Y 0 ([]) true,vB c.tables,.Y 0 ([]) true])],101⟩|k+1=>⟨a6 [(1,.ptr 0 0),(2,.ptr 1 0),(3,.ptr 29 0),(40,.Y 1 (c.q.map bm) false),(41,vN c.q.length),(42,vN (k+1))],aq [(0,.box [vI c.mode,vI c.o,vI c.Z,vI c.queue,vI c.V,vI c.m,vI c.O,vI c.ways,.Y 1 (c.q.map bm) false,vB c.tables,.Y 1 (c.tape.map dU) false]),(1,.box [vI 0,vI 0,vI 0,vI 0,vI 0,vI 0,vI 0,vI 0,.Y 0 ([]) true,vB false,.Y 0 ([]) true]),(29,.box [vI (bV c.mode 0 2),vI (bV c.o 1 2),vI (bV c.Z 2 8),vI (bV c.queue 1 4),vI (bV c.V 1 4),vI (bV c.m 2 6),vI ((bZ c).O),vI (bV c.ways 1 2),.X 100 0 (min (k+1) 64) false,vB c.tables,.Y 0 ([]) true]),(100,.arr ((iu c (k+1)).map bm) 1)],101⟩) (λk=>k<=c.q.length) (λk=>c.q.length-k) 0 (λs=>s) (au (λs=>s) wT wH R) (aE _) ?_;intro k p;rcases k with _|k
  .refine qS 0 rfl<|b' (x:=vB (decide (0<c.q.length))) R R (ak (bl _ _)) ?_;refine cr 0 R<|zB R (λh=>?_) (λh=>?_)
   .have r:=ax h;obtain⟨x,b⟩:∃g,c.q[0]?=some g:=⟨_,aA ad⟩;refine FO (bm x) (x:=.k 1 0 (bm x)) R R R (⟨dT,iH b⟩) R<|qR 0 R<|b' (x:=vB (decide (0<64))) R R (ak (bl _ _)) ?_;refine cr 0 R<|aV R (λ_=>?_) (λC=>by exact absurd C dT);refine Wz R<|oR 3 R<|g5 R (.inl R) (ka x 1 8 dT)<|b' (x:=.Y 1 ([[vI (bV x 1 8)]]) true) R R R<|eo (x:=.X 114 0 1 false) (h':=an _ 114 (some (.arr (([(bV x 1 8:Int)]).map bm) 1))) R R (Iw ad) (⟨R,by exact ad,by exact ad,tr⟩)<|oR 1 R<|a1 R<|rE 117 ?_;have E:0+1<=9223372036854775807:=by have:=a.q;have:=a.tape;omega
    refine qX 0 R<|b' (x:=vN (0+1)) R R (ap (bH (show 0+1<=9223372036854775807 by have:=a.q;have:=a.tape;omega) R)) ?_;refine cg 0 R<|⟨0+1,λi=>match i with|100=>114|i=>i,au (λi=>match i with|100=>114|i=>i) wT ⟨⟨R,R,R⟩,⟨R,R,R⟩,⟨R,R,R⟩,⟨R,(am (λz:List Int=>some (a'.arr (z.map bm) 1)) (vg b oT)),R⟩,tr⟩ R,oH (ax h),by have:=ax h;show c.q.length-(0+1)<c.q.length-(0);omega⟩
   have r:=aF h;refine ck 0 R<|.mk _ (.step none (ee (l:=[(1,.ptr 0 0),(2,.ptr 1 0),(3,.ptr 29 0)]) (hp:=[(0,.box [vI c.mode,vI c.o,vI c.Z,vI c.queue,vI c.V,vI c.m,vI c.O,vI c.ways,.Y 1 (c.q.map bm) false,vB c.tables,.Y 1 (c.tape.map dU) false]),(1,.box [vI 0,vI 0,vI 0,vI 0,vI 0,vI 0,vI 0,vI 0,.Y 0 ([]) true,vB false,.Y 0 ([]) true]),(29,.box [vI (bV c.mode 0 2),vI (bV c.o 1 2),vI (bV c.Z 2 8),vI (bV c.queue 1 4),vI (bV c.V 1 4),vI (bV c.m 2 6),vI ((bZ c).O),vI (bV c.ways 1 2),.Y 1 ([]) false,vB c.tables,.Y 0 ([]) true])]) tr jb ⟨⟨tr,_,R,.refl _⟩,⟨tr,_,R,.refl _⟩,⟨tr,_,R,eg.ZU ⟨.refl _,.refl _,.refl _,.refl _,.refl _,.refl _,.refl _,.refl _,.nil 1 false,.refl _,.refl _,tr⟩⟩,tr⟩) (.refl _)) ⟨(),λs=>s,au (λs=>s) wT ⟨⟨R,R,R⟩,⟨R,R,R⟩,⟨R,(by rw[<-vr (c:=c) (k:=0) (oH (aF h))];rfl),R⟩,tr⟩ R,R,tr⟩
  have A:k+1<=9223372036854775807:=oH a.q;have o:=I' (c:=c) (k:=k+1) p;refine qS 0 R<|b' (x:=vB (decide ((k+1)<c.q.length))) R R (ak (bl _ _)) ?_;refine cr 0 R<|zB R (λd=>?_) (λd=>?_)
  .have t:=ax d;obtain⟨x,b⟩:∃g,c.q[(k+1)]?=some g:=⟨_,aA ad⟩;refine FO (bm x) (x:=.k 1 0 (bm x)) R R R (⟨aG _,iH b⟩) R<|qR 0 R<|b' (x:=vB (decide ((k+1)<64))) R R (ak (bl _ _)) ?_;refine cr 0 R<|aV R (λm=>?_) (λm=>?_)
   all_goals
    first|(have u:=ax m;refine Wz R<|oR 3 R<|g5 R (.inl R) (ka x 1 8 dT)<|b' (x:=.Y 1 ([[vI (bV x 1 8)]]) true) R R R<|eo (x:=.X 114 0 (min (k+1) 64+1) false) (h':=an (an _ 100 none) 114 (some (.arr (((iu c (k+1))++([(bV x 1 8:Int)])).map bm) 1))) R R (iP bm (iu c (k+1)) ([(bV x 1 8:Int)]) ad ad) (⟨by exact ad,by exact ad,tr⟩)<|oR 1 R<|a1 R<|rE 117 ?_)|have u:=aF m
    have F:k+1+1<=9223372036854775807:=by have:=a.q;have:=a.tape;omega
    first|refine qX 0 rfl ?_|refine qC 0 rfl ?_
    refine b' (x:=vN (k+1+1)) R R (ap (bH (show k+1+1<=9223372036854775807 by have:=a.q;have:=a.tape;omega) R)) ?_;refine cg 0 R ?_
    first|(refine⟨(k+1)+1,λi=>match i with|100=>114|i=>i,au (λi=>match i with|100=>114|i=>i) wT ⟨⟨R,R,R⟩,⟨R,R,R⟩,⟨R,(by rw[(oT:min (k+1) 64+1=min (k+1+1) 64)];rfl),R⟩,⟨R,(am (λz:List Int=>some (a'.arr (z.map bm) 1)) (vg b oT)),R⟩,tr⟩ R,oH (ax d),by have:=ax d;show c.q.length-((k+1)+1)<c.q.length-(k+1);omega⟩)|(refine⟨(k+1)+1,λi=>i,au (λi=>i) wT ⟨⟨R,R,R⟩,⟨R,R,R⟩,⟨R,(by rw[(oH (aF m):min (k+1) 64=min (k+1+1) 64)];rfl),R⟩,⟨R,(am (λz:List Int=>some (a'.arr (z.map bm) 1)) (G7 (c:=c) (oH (aF m)))),R⟩,tr⟩ R,oH (ax d),by have:=ax d;show c.q.length-((k+1)+1)<c.q.length-(k+1);omega⟩)
  have t:=aF d;refine ck 0 R<|.mk _ (.step (some (100,1,(iu c (k+1)).map bm)) (ee (l:=[(1,.ptr 0 0),(2,.ptr 1 0),(3,.ptr 29 0)]) (hp:=[(0,.box [vI c.mode,vI c.o,vI c.Z,vI c.queue,vI c.V,vI c.m,vI c.O,vI c.ways,.Y 1 (c.q.map bm) false,vB c.tables,.Y 1 (c.tape.map dU) false]),(1,.box [vI 0,vI 0,vI 0,vI 0,vI 0,vI 0,vI 0,vI 0,.Y 0 ([]) true,vB false,.Y 0 ([]) true]),(29,.box [vI (bV c.mode 0 2),vI (bV c.o 1 2),vI (bV c.Z 2 8),vI (bV c.queue 1 4),vI (bV c.V 1 4),vI (bV c.m 2 6),vI ((bZ c).O),vI (bV c.ways 1 2),.Y 1 ((iu c (k+1)).map bm) false,vB c.tables,.Y 0 ([]) true])]) R jb ⟨⟨R,_,R,.refl _⟩,⟨R,_,R,.refl _⟩,⟨R,_,R,eg.ZU ⟨.refl _,.refl _,.refl _,.refl _,.refl _,.refl _,.refl _,.refl _,nB o,.refl _,.refl _,tr⟩⟩,tr⟩) (.refl _)) ⟨(),λs=>s,au (λs=>s) wT ⟨⟨R,R,R⟩,⟨R,R,R⟩,⟨R,(by rw[<-vr (c:=c) (k:=k+1) (oH (aF d))];rfl),R⟩,tr⟩ R,R,tr⟩
 intro f _;refine Fq (κ:=Unit) (λf=>⟨a6 [(1,.ptr 0 0),(2,.ptr 1 0),(3,.ptr 29 0)],aq [(0,.box [vI c.mode,vI c.o,vI c.Z,vI c.queue,vI c.V,vI c.m,vI c.O,vI c.ways,.Y 1 (c.q.map bm) false,vB c.tables,.Y 1 (c.tape.map dU) false]),(1,.box [vI 0,vI 0,vI 0,vI 0,vI 0,vI 0,vI 0,vI 0,.Y 0 ([]) true,vB false,.Y 0 ([]) true]),(29,.box [vI (bV c.mode 0 2),vI (bV c.o 1 2),vI (bV c.Z 2 8),vI (bV c.queue 1 4),vI (bV c.V 1 4),vI (bV c.m 2 6),vI ((bZ c).O),vI (bV c.ways 1 2),.Y 1 (((bZ c).q).map bm) false,vB c.tables,.Y 1 (((bZ c).tape).map dU) false])],31⟩) (λf=>True) ?_ ?_
 .refine qS 0 R<|b' (x:=vN c.tape.length) R R (cD dU c.tape)<|cr 0 R<|jR (κ:=Nat) (λk=>match k with|0=>⟨a6 [(1,.ptr 0 0),(2,.ptr 1 0),(3,.ptr 29 0),(58,.Y 1 (c.tape.map dU) false),(59,vN c.tape.length),(60,vN 0)],aq [(0,.box [vI c.mode,vI c.o,vI c.Z,vI c.queue,vI c.V,vI c.m,vI c.O,vI c.ways,.Y 1 (c.q.map bm) false,vB c.tables,.Y 1 (c.tape.map dU) false]),(1,.box [vI 0,vI 0,vI 0,vI 0,vI 0,vI 0,vI 0,vI 0,.Y 0 ([]) true,vB false,.Y 0 ([]) true]),(29,.box [vI (bV c.mode 0 2),vI (bV c.o 1 2),vI (bV c.Z 2 8),vI (bV c.queue 1 4),vI (bV c.V 1 4),vI (bV c.m 2 6),vI ((bZ c).O),vI (bV c.ways 1 2),.Y 1 (((bZ c).q).map bm) false,vB c.tables,.Y 0 ([]) true])],101⟩|k+1=>⟨a6 [(1,.ptr 0 0),(2,.ptr 1 0),(3,.ptr 29 0),(58,.Y 1 (c.tape.map dU) false),(59,vN c.tape.length),(60,vN (k+1))],aq [(0,.box [vI c.mode,vI c.o,vI c.Z,vI c.queue,vI c.V,vI c.m,vI c.O,vI c.ways,.Y 1 (c.q.map bm) false,vB c.tables,.Y 1 (c.tape.map dU) false]),(1,.box [vI 0,vI 0,vI 0,vI 0,vI 0,vI 0,vI 0,vI 0,.Y 0 ([]) true,vB false,.Y 0 ([]) true]),(29,.box [vI (bV c.mode 0 2),vI (bV c.o 1 2),vI (bV c.Z 2 8),vI (bV c.queue 1 4),vI (bV c.V 1 4),vI (bV c.m 2 6),vI ((bZ c).O),vI (bV c.ways 1 2),.Y 1 (((bZ c).q).map bm) false,vB c.tables,.X 100 0 (min (k+1) 64) false]),(100,.arr ((ix c (k+1)).map dU) 1)],101⟩) (λk=>k<=c.tape.length) (λk=>c.tape.length-k) 0 (λs=>s) (au (λs=>s) wT wH R) (aE _) ?_;intro k p;rcases k with _|k
  .refine qS 0 rfl<|b' (x:=vB (decide (0<c.tape.length))) R R (ak (bl _ _)) ?_;refine cr 0 R<|zB R (λj=>?_) (λj=>?_)
   .have v:=ax j;obtain⟨x,b⟩:∃g,c.tape[0]?=some g:=⟨_,aA ad⟩;have B:=a.tp x (aB b);refine FO (dU x) (x:=.k 1 0 (dU x)) R R R (⟨dT,iH b⟩) R<|qR 0 R<|b' (x:=vB (decide (0<64))) R R (ak (bl _ _)) ?_;refine cr 0 R<|zB R (λ_=>?_) (λD=>by exact absurd D dT);refine b' (x:=.Y 1 ([[vU x]]) true) R R R<|zF (x:=.X 113 0 1 false) (h':=an _ 113 (some (.arr (([x]).map dU) 1))) (Iw ad) (⟨R,by exact ad,by exact ad,tr⟩) ?_;have G:0+1<=9223372036854775807:=by have:=a.q;have:=a.tape;omega
    refine b' (x:=vN (0+1)) R R (ap (bH (show 0+1<=9223372036854775807 by have:=a.q;have:=a.tape;omega) R)) ?_;refine cg 0 R<|⟨0+1,λi=>match i with|100=>113|i=>i,au (λi=>match i with|100=>113|i=>i) wT ⟨⟨R,R,R⟩,⟨R,R,R⟩,⟨R,R,R⟩,⟨R,(am (λz:List Nat=>some (a'.arr (z.map dU) 1)) (u6 b oT)),R⟩,tr⟩ R,oH (ax j),by have:=ax j;show c.tape.length-(0+1)<c.tape.length-(0);omega⟩
   have v:=aF j;refine ck 0 R<|.mk _ (.step none (ee (l:=[(1,.ptr 0 0),(2,.ptr 1 0),(3,.ptr 29 0)]) (hp:=[(0,.box [vI c.mode,vI c.o,vI c.Z,vI c.queue,vI c.V,vI c.m,vI c.O,vI c.ways,.Y 1 (c.q.map bm) false,vB c.tables,.Y 1 (c.tape.map dU) false]),(1,.box [vI 0,vI 0,vI 0,vI 0,vI 0,vI 0,vI 0,vI 0,.Y 0 ([]) true,vB false,.Y 0 ([]) true]),(29,.box [vI (bV c.mode 0 2),vI (bV c.o 1 2),vI (bV c.Z 2 8),vI (bV c.queue 1 4),vI (bV c.V 1 4),vI (bV c.m 2 6),vI ((bZ c).O),vI (bV c.ways 1 2),.Y 1 (((bZ c).q).map bm) false,vB c.tables,.Y 1 ([]) false])]) tr jb ⟨⟨tr,_,R,.refl _⟩,⟨tr,_,R,.refl _⟩,⟨tr,_,R,eg.ZU ⟨.refl _,.refl _,.refl _,.refl _,.refl _,.refl _,.refl _,.refl _,.refl _,.refl _,.nil 1 false,tr⟩⟩,tr⟩) (.refl _)) ⟨(),λs=>s,au (λs=>s) wT ⟨⟨R,R,R⟩,⟨R,R,R⟩,⟨R,(by rw[<-vh (c:=c) (k:=0) (oH (aF j))];rfl),R⟩,tr⟩ R,R,tr⟩
  have A:k+1<=9223372036854775807:=oH a.tape;have o:=H7 (c:=c) (k:=k+1) p;refine qS 0 R<|b' (x:=vB (decide ((k+1)<c.tape.length))) R R (ak (bl _ _)) ?_;refine cr 0 R<|zB R (λe=>?_) (λe=>?_)
  .have w:=ax e;obtain⟨x,b⟩:∃g,c.tape[(k+1)]?=some g:=⟨_,aA ad⟩;have B:=a.tp x (aB b);refine FO (dU x) (x:=.k 1 0 (dU x)) R R R (⟨aG _,iH b⟩) R<|qR 0 R<|b' (x:=vB (decide ((k+1)<64))) R R (ak (bl _ _)) ?_;refine cr 0 R<|zB R (λn=>?_) (λn=>?_)
   all_goals
    first|(have y:=ax n;refine b' (x:=.Y 1 ([[vU x]]) true) R R R<|zF (x:=.X 113 0 (min (k+1) 64+1) false) (h':=an (an _ 100 none) 113 (some (.arr (((ix c (k+1))++([x])).map dU) 1))) (iP dU (ix c (k+1)) ([x]) ad ad) (⟨by exact ad,by exact ad,tr⟩) ?_)|have y:=aF n
    have H:k+1+1<=9223372036854775807:=by have:=a.q;have:=a.tape;omega
    refine b' (x:=vN (k+1+1)) R R (ap (bH (show k+1+1<=9223372036854775807 by have:=a.q;have:=a.tape;omega) R)) ?_;refine cg 0 R ?_
    first|(refine⟨(k+1)+1,λi=>match i with|100=>113|i=>i,au (λi=>match i with|100=>113|i=>i) wT ⟨⟨R,R,R⟩,⟨R,R,R⟩,⟨R,(by rw[(oT:min (k+1) 64+1=min (k+1+1) 64)];rfl),R⟩,⟨R,(am (λz:List Nat=>some (a'.arr (z.map dU) 1)) (u6 b oT)),R⟩,tr⟩ R,oH (ax e),by have:=ax e;show c.tape.length-((k+1)+1)<c.tape.length-(k+1);omega⟩)|(refine⟨(k+1)+1,λi=>i,au (λi=>i) wT ⟨⟨R,R,R⟩,⟨R,R,R⟩,⟨R,(by rw[(oH (aF n):min (k+1) 64=min (k+1+1) 64)];rfl),R⟩,⟨R,(am (λz:List Nat=>some (a'.arr (z.map dU) 1)) (G3 (c:=c) (oH (aF n)))),R⟩,tr⟩ R,oH (ax e),by have:=ax e;show c.tape.length-((k+1)+1)<c.tape.length-(k+1);omega⟩)
  have w:=aF e;refine ck 0 R<|.mk _ (.step (some (100,1,(ix c (k+1)).map dU)) (ee (l:=[(1,.ptr 0 0),(2,.ptr 1 0),(3,.ptr 29 0)]) (hp:=[(0,.box [vI c.mode,vI c.o,vI c.Z,vI c.queue,vI c.V,vI c.m,vI c.O,vI c.ways,.Y 1 (c.q.map bm) false,vB c.tables,.Y 1 (c.tape.map dU) false]),(1,.box [vI 0,vI 0,vI 0,vI 0,vI 0,vI 0,vI 0,vI 0,.Y 0 ([]) true,vB false,.Y 0 ([]) true]),(29,.box [vI (bV c.mode 0 2),vI (bV c.o 1 2),vI (bV c.Z 2 8),vI (bV c.queue 1 4),vI (bV c.V 1 4),vI (bV c.m 2 6),vI ((bZ c).O),vI (bV c.ways 1 2),.Y 1 (((bZ c).q).map bm) false,vB c.tables,.Y 1 ((ix c (k+1)).map dU) false])]) R jb ⟨⟨R,_,R,.refl _⟩,⟨R,_,R,.refl _⟩,⟨R,_,R,eg.ZU ⟨.refl _,.refl _,.refl _,.refl _,.refl _,.refl _,.refl _,.refl _,.refl _,.refl _,nB o,tr⟩⟩,tr⟩) (.refl _)) ⟨(),λs=>s,au (λs=>s) wT ⟨⟨R,R,R⟩,⟨R,R,R⟩,⟨R,(by rw[<-vh (c:=c) (k:=k+1) (oH (aF e))];rfl),R⟩,tr⟩ R,R,tr⟩
 intro f _;refine jj 0 R ?_;exact dK R dc R R
def R1{a:Bool}{x:Sp}(h:cE (cE a (!x.store) false) (decide (x.size>0)) false=true):(⟨x.M,x.W,x.size,x.d,x.value,x.halt⟩:cn)=bu a x:=by
 obtain⟨b,c⟩:=vD h;obtain⟨d,e⟩:=vD b;unfold bu;rw[aa ⟨d,ax c,sU e⟩]
def P_{a:Bool}{x:Sp}(h:cE (cE a (!x.store) false) (decide (x.size>0)) false=false):(⟨x.M,x.W,x.size,x.d,0,x.halt⟩:cn)=bu a x:=by
 unfold bu;rw[dZ λq=>Sk h ⟨Yf q.1 (by rw[q.2.2];rfl),jP q.2.1⟩]
def N8{a b:List cn}{k:Nat}{x y:cn}(d:a[k]?=some x)(e:k<b.length->b[k]?=some y)(h:cE (decide (k>=b.length)) true (!(Ye x y))=true)(c:br a b=k+br (a.drop k) (b.drop k)):k=br a b:=by
 have z:br (a.drop k) (b.drop k)=0:=Sc (λ_=>d) e λq=>by rw[sW (by omega),q.2]at h;cases h
 omega
def R2{a b:List cn}{k:Nat}{x y:cn}(f:a[k]?=some x)(g:k<b.length->b[k]?=some y)(h:cE (decide (k>=b.length)) true (!(Ye x y))=false)(e:br a b=k+br (a.drop k) (b.drop k)):k+1<=b.length/\br a b=k+1+br (a.drop (k+1)) (b.drop (k+1)):=by
 have c:k<b.length:=dw λq=>by rw[jP (oT:k>=b.length)]at h;cases h
 rw[sW oT]at h;have d:Ye x y=true:=by cases q:Ye x y with|true=>rfl|false=>rw[q]at h;cases h
 exact⟨c,Sb f (g c) d e⟩
def N9{a b:List cn}{k:Nat}(h:a.length<=k)(c:br a b=k+br (a.drop k) (b.drop k))(d:k<=a.length):a.length=br a b:=by
 rw[c,cB h];show a.length=k+0;omega
def N_{A B:List cn}{a:Int}{p q:Nat}:Vf A B a p q=if p≠q then false else if((br A B:Nat):Int)>=a then true else cE (cE (A.length==B.length) (br A B==A.length) false) (cE (decide (A.length>0)) (((A[A.length-1]?).getD lu).halt != 0) false) false:=by
 unfold Vf;split
 .rfl
 split
 .rfl
 rw[Sf,Sf,Sf];by_cases h:br A B=A.length
 .rw[h];simp only[BEq.rfl,kL,Bool.and_true]
 .have e:(br A B==A.length)=false:=by simpa using h
  rw[e];simp
def R0(x:Sp)(b:Bool):bI C0 55 [.agg (a2 x),vB b] (.agg (b8 (bu b x))):=by
 refine eb func55 R ?_;refine gS R id<|gS R id ?_;refine zN R (λh=>h)<|gS R id<|aw (x:=vB (decide (x.size>0))) R id R<|zN R (λh=>h) ?_;refine zB R (λa=>?_) (λa=>?_)
 .refine b' (x:=.agg [vU x.M,vU x.W,vI x.size,vI x.d,vU x.value,vI x.halt]) R R R<|cg 0 R ?_;exact dK R ⟨tr,tr,tr,tr,tr,tr,tr⟩ R (am (λe:cn=>AV.agg (b8 e)) (R1 a))
 refine b' (x:=.agg [vU x.M,vU x.W,vI x.size,vI x.d,.v (.int .u32 0),vI x.halt]) R R R<|cg 0 R ?_;exact dK R ⟨tr,tr,tr,tr,tr,tr,tr⟩ R (am (λe:cn=>AV.agg (b8 e)) (P_ a))
def xj(l:List Sp)(a:Bool)(t:l.length<=10000):bI C0 25 [.Y 9 (l.map a2) false,vB a] (.Y 6 ((l.map (bu a)).map b8) false):=by
 refine bc func25 R ?_;refine b' (x:=.Y 6 ([]) true) R R R<|qR 0 R<|b' (x:=vN l.length) R R (cD a2 l) ?_;refine cr 0 R<|dk (κ:=Nat×Bool) (λb=>match b with|(k,false)=>⟨a6 [(0,.Y 9 (l.map a2) false),(1,vB a),(4,.Y 0 ([]) true),(9,vN l.length),(10,vN k),(5,.Y 6 ([]) true)],aq [],7⟩|(k,true)=>⟨a6 [(0,.Y 9 (l.map a2) false),(1,vB a),(4,.Y 0 ([]) true),(9,vN l.length),(10,vN k),(5,.X 6 0 (((l.take k).map (bu a)).length) false)],aq [(6,.arr (((l.take k).map (bu a)).map b8) 6)],7⟩) (λb=>match b with|(k,false)=>(k<=l.length/\(l.take k).map (bu a)=[])|(k,true)=>(k<=l.length)) (λb=>l.length-b.1) (0,false) (λs=>s) (au (λs=>s) wT tr R) (⟨aE _,(show(l.take 0).map (bu a)=[]from R)⟩) ?_;intro b q;obtain⟨k,o⟩:=b;cases o
 all_goals
  have c:=q
  first|have m:k<=l.length:=c.1|have m:k<=l.length:=c
  have h:k<=10000:=oT
  first|have e:(l.take k).map (bu a)=[]:=c.2|(have p:((l.take k).map (bu a)).length<=10000:=(by rw[aH,aM];omega))
  refine b' (x:=vB (decide (k<l.length))) R R (ak (bl _ _)) ?_;refine cr 0 R<|zB R (λf=>?_) (λf=>?_)
  .have g:=ax f;obtain⟨x,d⟩:∃r,l[k]?=some r:=⟨_,aA ad⟩;refine FO (a2 x) (x:=.k 9 0 (a2 x)) R R R (⟨aG _,iH d⟩) R<|qR 0 R<|g5 R (.inl R) (R0 x a)<|b' (x:=.Y 6 ([[vU ((bu a x).M),vU ((bu a x).W),vI ((bu a x).size),vI ((bu a x).d),vU ((bu a x).Zz),vI ((bu a x).halt)]]) true) R R R ?_
   first|refine zF (x:=.X 18 0 1 false) (h':=an _ 18 (some (.arr (([(bu a x)]).map b8) 6))) (Au b8 ([]:List cn) ([(bu a x)]) ad) (⟨by exact ad,by exact ad,tr,tr⟩) ?_|refine zF (x:=.X 18 0 (((l.take k).map (bu a)).length+1) false) (h':=an (an _ 6 none) 18 (some (.arr ((((l.take k).map (bu a))++([(bu a x)])).map b8) 6))) (iP b8 ((l.take k).map (bu a)) ([(bu a x)]) ad ad) (⟨by exact ad,by exact ad,tr⟩) ?_
   have n:k+1<=10001:=aD h (aC 1);refine b' (x:=vN (k+1)) R R (ap (bH n R)) ?_;refine cg 0 R ?_
   first|(refine⟨(k+1,true),λi=>match i with|6=>18|i=>i,au (λi=>match i with|6=>18|i=>i) ⟨⟨R,R⟩,⟨R,R⟩,⟨R,R⟩,⟨R,R⟩,⟨R,R⟩,⟨(show AV.X 18 0 (1) false=AV.X 18 0 ((l.take (k+1)).map (bu a)).length false from by rw[<-(show [(bu a x)]=(l.take (k+1)).map (bu a)from(by rw[<-(Jh d R),e];rfl))];first|done|rfl|(congr 1<;>(first|exact ad|simp))),rfl⟩,trivial⟩ ⟨⟨rfl,(am (λz:List cn=>some (a'.arr (z.map b8) 6)) (show [(bu a x)]=(l.take (k+1)).map (bu a)from(by rw[<-(Jh d R),e];rfl))),R⟩,tr⟩ R,oT,by show l.length-(k+1)<l.length-k;omega⟩)|(refine⟨(k+1,true),λi=>match i with|6=>18|i=>i,au (λi=>match i with|6=>18|i=>i) ⟨⟨R,R⟩,⟨R,R⟩,⟨R,R⟩,⟨R,R⟩,⟨R,R⟩,⟨(show AV.X 18 0 (((l.take k).map (bu a)).length+1) false=AV.X 18 0 ((l.take (k+1)).map (bu a)).length false from by rw[<-(show((l.take k).map (bu a))++([(bu a x)])=(l.take (k+1)).map (bu a)from Jh d R)];first|done|rfl|(congr 1<;>(first|exact ad|simp))),rfl⟩,trivial⟩ ⟨⟨rfl,(am (λz:List cn=>some (a'.arr (z.map b8) 6)) (show((l.take k).map (bu a))++([(bu a x)])=(l.take (k+1)).map (bu a)from Jh d R)),R⟩,tr⟩ R,oT,by show l.length-(k+1)<l.length-k;omega⟩)
  have g:=aF f;have j:k=l.length:=oT
  first|exact⟨_,rfl,trivial,rfl,(by show Sub (.Y 6 [] true) (.Y 6 ((l.map (bu a)).map b8) false);rw[j,cH]at e;rw[e];exact Sub.clip _ _ _)⟩|refine dK rfl (by show 0+(((l.take k).map (bu a)).length)<=(((l.take k).map (bu a)).map b8).length;exact ad) rfl ?_;show AV.Y 6 (List.take ((l.take k).map (bu a)).length (List.drop 0 (((l.take k).map (bu a)).map b8))) false=_;rw[jW b8 _ (aC _),j,cH]
def xd(a b:List cn)(r:a.length<=10000)(t:b.length<=10000):bI C0 26 [.Y 6 (a.map b8) false,.Y 6 (b.map b8) false] (vN (br a b)):=by
 refine eb func26 R ?_;refine b' (x:=vN a.length) R R (cD b8 a)<|cr 0 R<|dk (κ:=Nat) (λk=>⟨a6 [(0,.Y 6 (a.map b8) false),(1,.Y 6 (b.map b8) false),(7,vN a.length),(8,vN k)],aq [],4⟩) (λk=>k<=a.length/\k<=b.length/\br a b=k+br (a.drop k) (b.drop k)) (λk=>a.length-k) 0 (λs=>s) (au (λs=>s) wT tr R) (⟨aE _,aE _,(bJ _).symm⟩) ?_;intro k e;have m:k<=10000:=oT;obtain⟨i,d⟩:=Sa b k;refine b' (x:=vB (decide (k<a.length))) R R (ak (bl _ _)) ?_;refine cr 0 R<|zB R (λf=>?_) (λf=>?_)
 .have j:=ax f;refine Wz R<|oR 2 R<|b' (x:=vN b.length) R R (cD b8 b)<|b' (x:=vB (decide (k>=b.length))) R R (ak (im _ _))<|oR 1 R<|gN R<|gN R ?_;obtain⟨h,c⟩:∃p,a[k]?=some p:=⟨_,aA ad⟩;refine DK (b8 h) (x:=.k 6 0 (b8 h)) (g:= !(decide (k>=b.length))) R R R R b9 R R (λl=>⟨aG _,iH c⟩) R<|gS R id<|gN R<|gN R<|DK (b8 i) (x:=.k 6 0 (b8 i)) (g:= !(decide (k>=b.length))) R R R R b9 R R (λl=>⟨aG _,iH (d (sU l))⟩) R<|gS R id<|aw (x:=vB (!(Ye h i))) R b9 R<|bO R R R (by simp)<|rE 22 ?_;refine jk 0 R<|zB R (λg=>?_) (λg=>?_)
  .exact dK R tr R (am (λn:Nat=>AV.v (.int .i64 (n:Int))) (N8 c d g e.2.2))
  skip
  have o:k+1<=10001:=aD m (aC 1);refine b' (x:=vN (k+1)) R R (ap (bH o R)) ?_;refine cg 0 R<|⟨k+1,λs=>s,au (λs=>s) wT tr R,by have q:=R2 c d g e.2.2;exact⟨oT,q.1,q.2⟩,by show a.length-(k+1)<a.length-k;omega⟩
 have j:=aF f;refine b' (x:=vN a.length) R R (cD b8 a)<|cg 0 R ?_;exact dK R tr R (am (λn:Nat=>AV.v (.int .i64 (n:Int))) (N9 oT e.2.2 e.1))
def P'(a b:List cn)(c:a.length<=10000)(d:b.length<=10000):bI C0 27 [.Y 6 (a.map b8) false,.Y 6 (b.map b8) false] (vB (cE (a.length==b.length) (br a b==a.length) false)):=by
 refine eb func27 R ?_;refine b' (x:=vN a.length) R R (cD b8 a)<|qR 0 R<|b' (x:=vN b.length) R R (cD b8 b)<|b' (x:=vB (a.length==b.length)) R R (ak (ba _ _))<|qR 0 R<|zQ (args:=[.Y 6 (a.map b8) false,.Y 6 (b.map b8) false]) (x:=vN (br a b)) (g:=a.length==b.length) R b9 R (.inl R) (λe=>xd a b c d) ?_;refine aw (x:=vN a.length) R id (cD b8 a)<|aw (x:=vB ((br a b)==a.length)) R b9 (ak (ba _ _))<|zN R (λh=>h) ?_;exact dK R tr R R
def R4(a:List cn)(d:a.length<=10000):bI C0 28 [.Y 6 (a.map b8) false] (vB (cE (decide (a.length>0)) (((a[a.length-1]?).getD lu).halt != 0) false)):=by
 refine eb func28 R ?_;obtain⟨y,b⟩:∃y,0<a.length->a[a.length-1]?=some y:=(Sa a (a.length-1)).imp λy h k=>h oT;refine b' (x:=vN a.length) R R (cD b8 a)<|b' (x:=vB (decide (a.length>0))) R R (ak (fq _ _))<|qR 0 R<|aw (x:=vN a.length) R id (cD b8 a)<|aw (x:=vI (((a.length:Nat):Int)-1)) R id (ap ((af _).trans (Mk oT oT))) ?_;refine DK (b8 y) (x:=.k 6 0 (b8 y)) (g:=decide (a.length>0)) R R R R b9 R R (λc=>by have e:=ax c;exact⟨by show(0:Int)<=((a.length:Nat):Int)-1;omega,by rw[aX,(oT:(((a.length:Nat):Int)-1).toNat=a.length-1),b oT];rfl⟩) R ?_;refine gS R id<|gS R id<|aw (x:=vB (y.halt != 0)) R id R<|zN R (λh=>h) ?_;refine dK R tr R (am (λz:Bool=>vB z) ?_);by_cases h:0<a.length
 .rw[b h];rfl
 simp[cE,h]
def N'{w x n:Int}(h:x=min (max n 0) 2000)(a:0<=w*min (max n 0) 2000/\w*min (max n 0) 2000<=4000):wrap64 (w*x)=w*min (max n 0) 2000:=by rw[h];exact Mk oT oT
def R5(c:Cf)(n:Int)(f:c.ok):bI C0 24 [.agg (er c false false),vI n] (vI (yM c n)):=by
 refine eb func24 R ?_;have g:=Sd c n;have h:=Se c;refine zC (JP c f) ?_;refine b' (x:=vB (decide (n<0))) R R R ?_;refine cr 0 R<|zB R (λa=>?_) (λa=>?_)
 all_goals
  first|(have d:=ax a;refine b' (x:=vB (decide (0>2000))) R R R ?_)|(have d:=aF a;refine b' (x:=vB (decide (n>2000))) R R R ?_)
  refine cr 0 R<|zB R (λb=>?_) (λb=>?_)
  all_goals
   first|have e:=ax b|have e:=aF b
   refine b' (x:=vI ((bZ c).o*min (max n 0) 2000)) R R (ap ((af _).trans (N' oT g)))<|qR 0 R<|b' (x:=vI (yM c n)) R R (ap ((af _).trans (Mk oT oT)))<|cg 0 R ?_;exact dK R tr R R
def OF(c:Cf)(prog:List Nat)(m w:ByteArray)(n:Int)(a:Bool)(t:c.ok)(hp:∀x∈prog,x<=4294967295)(G:prog.length<=1000):bI C0 14 [.agg (er c false false),.Y 1 (prog.map dU) false,.v (.string m),.v (.string w),vI n,vB a] (.F [vN (br (CJ prog m (yM c n) a) (CJ prog w (yM c n) a)),vB (Vf (CJ prog m (yM c n) a) (CJ prog w (yM c n) a) (yM c n) (jB m).size (jB w).size)]):=by
 refine dJ func14 ?_;obtain⟨X,i⟩:∃X,X=((e9 prog (a3 m) (cz prog (min (yM c n) 10000).toNat (a3 m))).map Prod.snd):=⟨_,R⟩;obtain⟨Y,j⟩:∃Y,Y=((e9 prog (a3 w) (cz prog (min (yM c n) 10000).toNat (a3 w))).map Prod.snd):=⟨_,R⟩;obtain⟨o,H⟩:∃u,u=hv (a3 m) (e9 prog (a3 m) (cz prog (min (yM c n) 10000).toNat (a3 m))):=⟨_,R⟩;obtain⟨r,I⟩:∃u,u=hv (a3 w) (e9 prog (a3 w) (cz prog (min (yM c n) 10000).toNat (a3 w))):=⟨_,R⟩;have C:=ui prog m (yM c n) false hp (aL G dT);have E:=ui prog w (yM c n) false hp (aL G dT);rw[<-i, <-H]at C;rw[<-j, <-I]at E;obtain⟨A,b⟩:∃A,A=CJ prog m (yM c n) a:=⟨_,R⟩;obtain⟨B,d⟩:∃B,B=CJ prog w (yM c n) a:=⟨_,R⟩;obtain⟨p,k⟩:∃p,p=(jB m).size:=⟨_,R⟩;obtain⟨q,l⟩:∃q,q=(jB w).size:=⟨_,R⟩;rw[<-b, <-d, <-k, <-l];have f:A.length<=10000:=by rw[b];exact Ji ..
 have s:B.length<=10000:=by rw[d];exact Ji ..
 have D:X.length<=10000:=by
  have:A.length=X.length:=by rw[b,i];unfold CJ;rw[aH]
  omega
 have F:Y.length<=10000:=by
  have:B.length=Y.length:=by rw[d,j];unfold CJ;rw[aH]
  omega
 replace b:A=X.map (bu a):=by rw[b,i];rfl
 replace d:B=Y.map (bu a):=by rw[d,j];rfl
 have M:br A B<=10000:=aL (Eh A B).1 f;have K:p<=300:=by rw[k,wE];exact aL (RA _) dT
 have L:q<=300:=by rw[l,wE];exact aL (RA _) dT
 refine qS 0 R<|zC (R5 c n t)<|zC (x:=.F [.agg (c6 o.M o.r o.mem o.halt),.Y 9 (X.map a2) false]) ((show bI C0 9 [.Y 1 (prog.map dU) false,.v (.string m),vI (yM c n)] (.F [h_ o,.Y 9 (X.map a2) false])from C)) ?_;refine zC (x:=.F [.agg (c6 r.M r.r r.mem r.halt),.Y 9 (Y.map a2) false]) ((show bI C0 9 [.Y 1 (prog.map dU) false,.v (.string w),vI (yM c n)] (.F [h_ r,.Y 9 (Y.map a2) false])from E)) ?_;refine zC (x:=.Y 6 (A.map b8) false) ((show bI C0 25 [.Y 9 (X.map a2) false,vB a] (.Y 6 (A.map b8) false)from b ▸ xj X a D))<|zC (x:=.Y 6 (B.map b8) false) ((show bI C0 25 [.Y 9 (Y.map a2) false,vB a] (.Y 6 (B.map b8) false)from d ▸ xj Y a F))<|zC (xd A B f s) ?_;refine g5 R (.inl R) (pw m)<|b' (x:=vN p) R R (ap (by rw[k]))<|qR 0 R<|g5 R (.inl R) (pw w)<|b' (x:=vN q) R R (ap (by rw[l]))<|b' (x:=vB (p != q)) R R (ak (db _ _)) ?_;refine cr 0 R<|zB R (λg=>?_) (λg=>?_)
 .have y:=wM g;have e:Vf A B (yM c n) p q=false:=aa (sU g);rw[e];exact dK R tr R R
 have y:=wN g;refine b' (x:=vB (decide (((br A B:Nat):Int)>=(yM c n)))) R R R<|qR 0 R<|jQ (args:=[.Y 6 (A.map b8) false,.Y 6 (B.map b8) false]) (x:=vB (cE (A.length==B.length) (br A B==A.length) false)) (g:= !(decide (((br A B:Nat):Int)>=(yM c n)))) R R R R b9 R R R (.inl R) R (λv=>P' A B f s)<|zG R id<|jQ (args:=[.Y 6 (A.map b8) false]) (x:=vB (cE (decide (A.length>0)) (((A[A.length-1]?).getD lu).halt != 0) false)) (g:=(!(decide (((br A B:Nat):Int)>=(yM c n))))&&(cE (A.length==B.length) (br A B==A.length) false)) R R R R (λh=>h) R R R (.inl R) R (λv=>R4 A f)<|pB (x:=vB (cE (cE (A.length==B.length) (br A B==A.length) false) (cE (decide (A.length>0)) (((A[A.length-1]?).getD lu).halt != 0) false) false)) (g:= !(decide (((br A B:Nat):Int)>=(yM c n)))) R R R R (λh=>h) R R (λv t=>by first|(rw[v,t];rfl)|simp_all)<|zN rfl (by simp) ?_;rw[N_,dZ (sU g)];exact dK rfl trivial rfl (am (λz:Bool=>AV.F [vN (br A B),vB z]) (by by_cases J:((br A B:Nat):Int)>=yM c n<;>simp[cE,J]))
def F'{x:Int}(a: -9223372036854775808<=x)(b:x<9223372036854775808):wrap64 x=x:=by unfold wrap64;omega
def u4(q:List bp)(k:Int)(agY:Nat)(left:Int)(a:ByteArray):yH (Bi q k agY left a)=yH q+if k=4 then 0 else 1:=by
 unfold yH Bi;rw[mL,aU];by_cases h:k=4<;>simp[h]
def G0(q:List bp):yH (eH q).1<=yH q:=by
 cases q with
 |nil=>exact aC _
 |cons x r=>
  unfold eH;dsimp only;split
  .unfold yH;simp only[List.filter_cons];by_cases h:x.kind=4<;>simp[h]
  .unfold yH;simp only[List.filter_cons];by_cases h:x.kind=4<;>simp[h]
structure Bd(f:Cf)(a:Nat)(c:Co):Prop where
 Q:c.Q=f
 Z:(c.Z.length:Int)<=f.Z
 Z5:(c.L.length:Int)<=f.queue
 Z':(c.V.length:Int)<=f.V
 rd:(yH c.U:Int)<=f.m
 ret:c.N.length=a
def S3(c:Co)(agY:Nat):((oK c agY).U=c.U/\(oK c agY).asked=c.asked)\/∃l d,(oK c agY).U=Bi c.U 4 l (lX c.Q c.asked) d/\(oK c agY).asked=wrap64 (c.asked+1):=by
 unfold oK;rcases a:iQ c.data c.U c.mem agY (lX c.Q c.asked)with ⟨d,q,b⟩;show(q=c.U/\(if b=true then wrap64 (c.asked+1)else c.asked)=c.asked)\/∃l d,q=Bi c.U 4 l (lX c.Q c.asked) d/\(if b=true then wrap64 (c.asked+1)else c.asked)=wrap64 (c.asked+1);unfold iQ at a;split at a
 .cases a;exact .inl ⟨R,R⟩
 split at a
 .cases a;exact .inl ⟨R,R⟩
 split at a
 split at a
 .cases a;exact .inr ⟨_,_,R,R⟩
 cases a;exact .inl ⟨R,R⟩
def E8(c:Co)(agY:Nat):yH (oK c agY).U<=yH c.U:=by
 rcases S3 c agY with ⟨h, -⟩|⟨l,d,h, -⟩
 .rw[h];exact aC _
 rw[h,u4,aa rfl];exact aC _
def G1(c:Co)(agY:Nat):(oK c agY).Q=c.Q/\(oK c agY).Z=c.Z/\(oK c agY).L=c.L/\(oK c agY).V=c.V/\(oK c agY).N=c.N:=by
 rw[<-uY];exact⟨R,R,R,R,R⟩
theorem Bd.ZJ{f:Cf}{a:Nat}{c:Co}(h:Bd f a c)(agY:Nat):Bd f a (oK c agY):=by
 obtain⟨b,d,e,g,i⟩:=G1 c agY;have:=E8 c agY;exact⟨b.trans h.Q,d ▸ h.Z,e ▸ h.Z5,g ▸ h.Z',oH h.rd,i ▸ h.ret⟩
def K5{c:Co}{b:Bool}(h:tA c b=true):(yH c.U:Int)<c.Q.m:=by
 unfold tA at h;split at h
 .exact ax h
 have:=ax h;omega
theorem Bd.ask{f:Cf}{a:Nat}{c:Co}(h:Bd f a c){k:Int}{b:Bool}(hr:tA c b=true\/k=4)(agY:Nat)(d:ByteArray):Bd f a (jE c k agY d):=by
 refine⟨h.Q,h.Z,h.Z5,h.Z',?_,h.ret⟩;show((yH (Bi c.U k agY _ d):Nat):Int)<=_;rw[u4];have e:=h.rd;rcases hr with hr|hr
 .have:=K5 hr;rw[h.Q]at this;split<;>omega
 rw[aa hr];omega
def I8{f:Cf}{a:Nat}{c:Co}(h:Bd f a c):Bd f a (lM c):=by
 have b:Bd f a (jJ c):=⟨h.Q,h.Z,h.Z5,h.Z',by have:=G0 c.U;have:=h.rd;show((yH (eH c.U).1:Nat):Int)<=_;omega,h.ret⟩;rw[kC];split
 .unfold ID
  repeat' split
  .exact⟨b.Q,by show((List.map _ _).length:Int)<=_;rw[aH];exact b.Z,b.Z5,b.Z',b.rd,b.ret⟩
  .exact⟨b.Q,b.Z,b.Z5,b.Z',b.rd,b.ret⟩
  .exact b.ZJ _
  .exact⟨b.Q,b.Z,b.Z5,b.Z',b.rd,b.ret⟩
  exact b
 exact b
def K6(l:List ai)(i:Nat):(DY l i).length<=l.length:=by
 unfold DY;split
 .rename_i e a;have:=(Em.1 a).1;rw[aU,aM];simp;omega
 exact aC _
def I9{f:Cf}{a:Nat}{c:Co}(h:Bd f a c)(b:0<=f.queue):Bd f a (kK c):=by
 have d:=nN c;unfold kK;split
 .exact h
 split
 .rename_i i _;exact⟨h.Q,by have:=K6 (b5 c) i;have:=h.Z;show((DY (b5 c) i).length:Int)<=_;omega,b,h.Z',h.rd,h.ret⟩
 exact⟨h.Q,by have:=h.Z;show((b5 c).length:Int)<=_;omega,h.Z5,h.Z',h.rd,h.ret⟩
def v0{f:Cf}{a:Nat}{c:Co}(h:Bd f a c)(s:Sp)(g: ¬(s.store=true/\(c.V.length:Int)>=c.Q.V)):Bd f (a+1) (fZ c s):=by
 refine⟨h.Q,h.Z,h.Z5,?_,h.rd,by show(c.N++[s]).length=_;rw[aU,h.ret];rfl⟩;show(((match iJ s with|some p=>c.V++[p]|none=>c.V).length:Nat):Int)<=_;split
 .rename_i p hp;have b:s.store=true:=by
   unfold iJ at hp;split at hp
   .cases hp
   .rename_i q;cases e:s.store with
    |true=>rfl
    |false=>exact absurd (.inl e) q
  have d: ¬(c.V.length:Int)>=c.Q.V:=λq=>g ⟨b,q⟩;rw[h.Q]at d;rw[aU];show((c.V.length+1:Nat):Int)<=_;omega
 .exact h.Z'
def H0{f:Cf}{a:Nat}{c:Co}(h:Bd f a c)(e:ai)(b: ¬((cA e).store=true/\(c.V.length:Int)>=c.Q.V)):Bd f (a+1) (Bm c e):=by
 have k:=v0 h (cA e) b;exact⟨k.Q,by have:=h.Z;show((c.Z.drop 1).length:Int)<=_;rw[bD];omega,k.Z5,k.Z',k.rd,k.ret⟩
def H1{f:Cf}{a:Nat}{c:Co}(h:Bd f a c)(e:ai)(b: ¬((cA e).store=true/\(c.V.length:Int)>=c.Q.V)):Bd f (a+1) (MP c e):=by
 have k:=(v0 h (cA e) b).ZJ (cA e).W;rw[<-uY]at k;exact⟨k.Q,by have:=h.Z;show((c.Z.drop 1).length:Int)<=_;rw[bD];omega,k.Z5,k.Z',k.rd,k.ret⟩
theorem q6{f:Cf}(d:0<=f.Z/\0<=f.queue):∀(n:Nat) (c:Co) (a:Nat),Bd f a c->∃b,a<=b/\b<=a+n/\Bd f b (bx n c)
 |0,c,a,h=>⟨a,aC _,aC _,h⟩
 | n + 1,c,a,h=>by
  by_cases j:c.halt≠0\/c.Z.length=0
  .rw[mG j];exact⟨a,aC _,oT,h⟩
  .have m:c.Z[0]?=some (c.Z[0]'ad):=aA ad;rw[iX ad (λq=>j (.inl q)) m];split
   .exact⟨a,aC _,oT,h⟩
   .split
    .exact⟨a+1,oT,oT,⟨h.Q,d.1,d.2,h.Z',h.rd,by show(c.N++[_]).length=_;rw[aU,h.ret];rfl⟩⟩
    .split
     .exact⟨a,aC _,oT,h⟩
     .rename_i i;rw[kB];by_cases g:aj (c.Z[0]'ad).i.op=3
      .rw[Ke g];obtain⟨b,k,l,e⟩:=q6 d n _ _ (H1 h _ i);exact⟨b,oT,oT,e⟩
      .rw[An g];obtain⟨b,k,l,e⟩:=q6 d n _ _ (H0 h _ i);exact⟨b,oT,oT,e⟩
theorem Bd.setE{f:Cf}{a:Nat}{c:Co}(h:Bd f a c)(i:Nat)(e:ai):Bd f a (fh c i e):=⟨h.Q,by show((c.Z.set i e).length:Int)<=_;rw[cC];exact h.Z,h.Z5,h.Z',h.rd,h.ret⟩
def K7{f:Cf}{a:Nat}{c:Co}(h:Bd f a c)(i:Nat):Bd f a (oE c i):=by
 unfold oE
 cases c.Z[i]? with
 |none=>exact h
 |some e=>
  dsimp only
  repeat' split
  all_goals first|exact h|exact h.setE _ _|(rename_i q;exact(h.ask (.inl q.1) _ _).setE _ _)
def I_{f:Cf}{a:Nat}{c:Co}(h:Bd f a c)(i:Nat):Bd f a (iS c i):=by
 unfold iS
 cases c.Z[i]? with
 |none=>exact h
 | some e=>
  dsimp only;split
  .exact h.setE _ _
  .split
   .exact K7 (h.setE _ _) i
   .exact h.setE _ _
theorem vf{f:Cf}{a:Nat}:∀(p:List Nat) (c:Co),Bd f a c->Bd f a (p.foldl iS c)
 |[],_,h=>h
 |i::p,_,h=>vf p _ (I_ h i)
def H2{f:Cf}{a:Nat}{c:Co}(h:Bd f a c):Bd f a (gY c):=by
 unfold gY;split
 .exact h
 exact vf _ c h
theorem u5{f:Cf}{a:Nat}:∀(n:Nat) (c:Co),Bd f a c->Bd f a (cl n c)
 |0,_,h=>h
 | n+1,c,h=>by
  by_cases b:(c.Z.length:Int)>=c.Q.Z\/c.L.length=0
  .rw[Ap b];exact h
  .have g:c.L[0]?=some (c.L[0]'ad):=aA ad;have e:=CU (n:=n+1) (k:=0) ad (λq=>b (.inl q)) g;rw[(oT:n+1-(0+1)=n),(oT:n+1-0=n+1)]at e;rw[<-e];have d:=h.Q;refine u5 n _ ⟨h.Q,?_,?_,h.Z',h.rd,h.ret⟩
   .show((c.Z++[_]).length:Int)<=_;rw[aU];show((c.Z.length+1:Nat):Int)<=_;rw[d]at b;omega
   .have:=h.Z5;show((c.L.drop 1).length:Int)<=_;rw[bD];omega
def H4{f:Cf}{a:Nat}{c:Co}(h:Bd f a c):Bd f a (lP c):=by
 unfold lP;split
 .exact h
 exact u5 _ c h
theorem uw{f:Cf}{a:Nat}:∀(n:Nat) (c:Co),Bd f a c->Bd f a (ch n c)
 |0,_,h=>h
 | n +1,c,h=>by
  by_cases b:c.stop=true\/(c.L.length:Int)>=c.Q.queue
  .rw[yZ b];exact h
  .have g:((c.L.length+1:Nat):Int)<=f.queue:=by have:=h.Q;rw[this]at b;omega
   by_cases d:(es c.prog c.J).isSome=false
   .rw[Aq ad b d];exact⟨h.Q,h.Z,by show((c.L++[_]).length:Int)<=_;rw[aU];exact g,h.Z',h.rd,h.ret⟩
   .by_cases i:(bK c.u (ao c.J)).2.isSome=false
    .rw[uD ad b d i];split
     .rename_i q;exact h.ask (.inl q.2) _ _
     .exact h
    .have e:=BC (n:=n+1) (k:=0) ad b d i;rw[(oT:n+1-(0+1)=n),(oT:n+1-0=n+1)]at e;rw[<-e];refine uw n _ ?_;have r:∀w,(dM (lJ c) w).1.Q=c.Q/\(dM (lJ c) w).1.Z=c.Z/\(dM (lJ c) w).1.L=c.L/\(dM (lJ c) w).1.V=c.V/\(dM (lJ c) w).1.U=c.U/\(dM (lJ c) w).1.N=c.N:=by
      intro w;unfold dM
      repeat' split
      all_goals exact⟨R,R,R,R,R,R⟩
     obtain⟨j,k,l,m,o,p⟩:=r (a8 c.prog c.J);refine⟨j.trans h.Q,?_,?_,?_,?_,?_⟩
     .show(((dM (lJ c) (a8 c.prog c.J)).1.Z.length:Nat):Int)<=_;rw[k];exact h.Z
     .show((((dM (lJ c) (a8 c.prog c.J)).1.L++[_]).length:Nat):Int)<=_;rw[l,aU];exact g
     .show(((dM (lJ c) (a8 c.prog c.J)).1.V.length:Nat):Int)<=_;rw[m];exact h.Z'
     .show((yH (dM (lJ c) (a8 c.prog c.J)).1.U:Nat):Int)<=_;rw[o];exact h.rd
     .show(dM (lJ c) (a8 c.prog c.J)).1.N.length=_;rw[p];exact h.ret
def G2{f:Cf}{a:Nat}{c:Co}(h:Bd f a c):Bd f a (eN c):=by
 unfold eN;split
 .exact h
 exact uw _ c h
def H5{f:Cf}{a:Nat}{c:Co}(h:Bd f a c):Bd f a (tY c):=by
 have e:Bd f a (al c):=by
  refine⟨h.Q,h.Z,h.Z5,?_,h.rd,h.ret⟩;have:=h.Z';show(((sL c.V c.data).1.length:Nat):Int)<=_;unfold sL
  repeat' split
  all_goals first|omega|(rename_i b _;rw[b]at this;simp at this⊢;omega)|(rename_i b;simp[b]at this⊢;omega)|(simp at this⊢;omega)
 have i:∀{d:Co},Bd f a d->Bd f a (c5 d):=λ{d} k=>by
  unfold c5;split
  .exact k
  split
  .rename_i q;exact k.ask (.inl q.2) _ _
  exact k
 have g:∀{d:Co},Bd f a d->Bd f a (cj d):=λ{d} k=>by
  unfold cj;split
  .exact k
  unfold pE;split
  .split
   .rename_i w _ _;have q:=k.ask (k:=4) (b:=true) (.inr R) w.S w.data;exact⟨q.Q,q.Z,q.Z5,q.Z',q.rd,q.ret⟩
   exact k
  exact k
 rw[mO];split
 .exact g (i e)
 exact g e
def K8{f:Cf}(d:0<=f.Z/\0<=f.queue){c:Co}{a:Nat}(h:Bd f a c):∃b,a<=b/\b<=a+f.o.toNat/\Bd f b (uG c):=by
 unfold uG;split
 .have k:Bd f a (s0 c):=⟨h.Q,h.Z,h.Z5,h.Z',h.rd,h.ret⟩;have g:=I9 (I8 k) d.2;obtain⟨b,i,e,j⟩:=q6 d (kK (lM (s0 c))).Q.o.toNat _ a g;rw[g.Q]at e;exact⟨b,i,e,H5 (G2 (H4 (H2 j)))⟩
 exact⟨a,aC _,oT,h⟩
end Go.Proofs.YtiaekocjeinkjaaGreatDoor
